import Derived.Test.YtennnhfaghdeoaaChecked
import Derived.Test.YtennnhfaghdeoaaWordF
import Derived.Test.YtennnhfaghdeoaaCellF
import Derived.Test.YtennnhfaghdeoaaWords
import Derived.LoopTactic
import Derived.Outline
namespace Go.Proofs.Ytennnhfaghdeoaa
open Go.RowKit

/-! Package cell. -/
theorem may_any (t c : Int) (w : World) :
  Calls Try.prog 86 #[.int .i64 t, .int .i64 c] w fun e w' => e = .returned (.bool (mayB t c)) ∧ w = w' := by
 have h : (mayB t c = true ∧ 1 ≤ t ∧ t ≤ 64 ∧ 0 ≤ c ∧ c ≤ 65536) ∨ (mayB t c = false ∧ ((¬ 1 ≤ t) ∨ (1 ≤ t ∧ ¬ t ≤ 64) ∨ (1 ≤ t ∧ t ≤ 64 ∧ ¬ 0 ≤ c) ∨ (1 ≤ t ∧ t ≤ 64 ∧ 0 ≤ c ∧ ¬ c ≤ 65536))) := by
  by_cases h : 1 ≤ t ∧ t ≤ 64 ∧ 0 ≤ c ∧ c ≤ 65536
  ·exact .inl ⟨mayB_of h, h⟩
  ·exact .inr ⟨mayB_not h, by omega⟩
 rcases h with ⟨h, h1, h2, h3, h4⟩ | ⟨h, h1 | ⟨h1, h2⟩ | ⟨h1, h2, h3⟩ | ⟨h1, h2, h3, h4⟩⟩
 all_goals
  rw [h]
  clear h
  go_enter Try.func86, Try.ntmps86
  go_wp2
  all_goals go_ret
  all_goals exact ⟨by simp [*], rfl⟩
theorem size_any (t c : Int) (h1 : -1000000 ≤ t) (h2 : t ≤ 1000000) (h3 : -1000000 ≤ c) (h4 : c ≤ 1000000) (w : World) :
  Calls Try.prog 87 #[.int .i64 t, .int .i64 c] w fun e w' => e = .returned (.int .i64 (8 + t + 8 * c)) ∧ w = w' := by
 go_enter Try.func87, Try.ntmps87
 go_wp2
 go_ret
 exact ⟨rfl, rfl⟩
theorem pin_any (i : Int) (h1 : -1000000 ≤ i) (h2 : i ≤ 1000000) (w : World) :
  Calls Try.prog 56 #[.int .i64 i] w fun e w' => e = .returned (.int .i64 (8 + i)) ∧ w = w' := by
 go_enter Try.func56, Try.ntmps56
 go_wp2
 go_ret
 exact ⟨rfl, rfl⟩
theorem field_any (t r f : Int) (h1 : -1000000 ≤ t) (h2 : t ≤ 1000000) (h3 : -100000 ≤ r) (h4 : r ≤ 1000000) (h5 : -1000000 ≤ f) (h6 : f ≤ 1000000) (w : World) :
  Calls Try.prog 58 #[.int .i64 t, .int .i64 r, .int .i64 f] w fun e w' => e = .returned (.int .i64 (8 + t + 8 * (r - 1) + f)) ∧ w = w' := by
 go_enter Try.func58, Try.ntmps58
 go_wp2_with (go_at_call 87; refine (size_any t (r - 1) (by omega) (by omega) (by omega) (by omega) _).mono ?_; rintro e w' ⟨rfl, rfl⟩)
 go_ret
 exact ⟨rfl, rfl⟩
theorem field_link (t r : Nat) (h1 : 1 ≤ r) (ht : t ≤ 64) (hr : r ≤ 65536) (w : World) :
  Calls Try.prog 58 #[.int .i64 t, .int .i64 r, .int .i64 7] w fun e w' => e = .returned (.int .i64 (linkAt t r : Nat)) ∧ w = w' :=
 (field_any t r 7 (by omega) (by omega) (by omega) (by omega) (by omega) (by omega) w).mono fun _ _ ⟨he, hw⟩ => ⟨by rw [he]; congr 2; unfold linkAt; omega, hw⟩
theorem top_any (r t : Int) (w : World) :
  Calls Try.prog 88 #[.int .i64 r, .int .u64 t] w fun e w' => e = .returned (.int .u64 (topF r t)) ∧ w = w' := by
 go_enter Try.func88, Try.ntmps88
 go_wp2
 go_ret
 exact ⟨rfl, rfl⟩
theorem info_u64 : (Try.prog.info? 26).map (fun i => (i.zero, i.size, i.bytes)) = some (some (.int .u64 0), 1, 8) := by kernel_rfl
theorem new_no (t c : Int) (h : mayB t c = false) (w : World) :
  Calls Try.prog 51 #[.int .i64 t, .int .i64 c] w fun e w' => e = .returned (.tuple #[.agg #[.int .i64 0, .int .i64 0, .slice none 0 0], .int .i64 1]) ∧ Ext w w' := by
 go_enter Try.func51, Try.ntmps51
 go_wp2_with (go_at_call 86; refine (may_any _ _ _).mono ?_; rintro e w' ⟨rfl, rfl⟩)
 refine bodyPost_ret (v := .tuple #[.agg #[.int .i64 0, .int .i64 0, .slice none 0 0], .int .i64 1]) (by simp [results, Try.results51, go_sem]) rfl ⟨rfl, ?_⟩
 exact (Below.refl _ _).alloc (Nat.le_refl _) _
def nextF (t r : Int) : Int := if r = 0 then 0 else 8 + t + 8 * (r - 1)
theorem next_any (t r : Int) (h1 : -1000000 ≤ t) (h2 : t ≤ 1000000) (h3 : -100000 ≤ r) (h4 : r ≤ 1000000) (w : World) :
  Calls Try.prog 60 #[.int .i64 t, .int .i64 r] w fun e w' => e = .returned (.int .i64 (nextF t r)) ∧ w = w' := by
 by_cases h : r = 0
 ·subst h
  go_enter Try.func60, Try.ntmps60
  go_wp2
  go_ret
  exact ⟨rfl, rfl⟩
 ·have e : nextF t r = 8 + t + 8 * (r - 1) + 0 := by simp [nextF, h]
  rw [e]
  clear e
  go_enter Try.func60, Try.ntmps60
  go_wp2_with (go_at_call 58; refine (field_any t r 0 (by omega) (by omega) (by omega) (by omega) (by omega) (by omega) _).mono ?_; rintro e w' ⟨rfl, rfl⟩)
  go_ret
  exact ⟨ret_int (by omega), rfl⟩
set_option maxRecDepth 100000 in
theorem cright_any (t c : Int) (A : Option Addr) (n cp : Nat) (w : World) :
  Calls Try.prog 54 #[.agg #[.int .i64 t, .int .i64 c, .slice A n cp]] w fun e w' => e = .returned (.bool (rightM t c n)) ∧ Ext w w' := by
 have hE : Ext w (w.alloc (.cells #[.int .i64 t, .int .i64 c, .slice A n cp] 25)) := (Below.refl _ w).alloc (Nat.le_refl _) _
 have e0 : (w.alloc (.cells #[.int .i64 t, .int .i64 c, .slice A n cp] 25)).cell? ⟨w.heap.size, 0, none⟩ = some (.int .i64 t) := by simp [go_sem]
 have e1 : (w.alloc (.cells #[.int .i64 t, .int .i64 c, .slice A n cp] 25)).cell? ⟨w.heap.size, 1, none⟩ = some (.int .i64 c) := by simp [go_sem]
 have e2 : (w.alloc (.cells #[.int .i64 t, .int .i64 c, .slice A n cp] 25)).cell? ⟨w.heap.size, 2, none⟩ = some (.slice A n cp) := by simp [go_sem]
 have hbox : ∀ wx, Ext (w.alloc (.cells #[.int .i64 t, .int .i64 c, .slice A n cp] 25)).drew wx → wx.cell? ⟨w.heap.size, 0, none⟩ = some (.int .i64 t) ∧ wx.cell? ⟨w.heap.size, 1, none⟩ = some (.int .i64 c) ∧ wx.cell? ⟨w.heap.size, 2, none⟩ = some (.slice A n cp) := fun wx hx => ⟨hx.drawn.cell e0, hx.drawn.cell e1, hx.drawn.cell e2⟩
 have hEx : ∀ wx, Ext (w.alloc (.cells #[.int .i64 t, .int .i64 c, .slice A n cp] 25)).drew wx → Ext w wx := fun wx hx => hE.trans hx.drawn
 clear e0 e1 e2 hE
 cases h : mayB t c
 ·have hr : rightM t c n = false := by simp [rightM, h]
  rw [hr]
  clear hr
  go_enter Try.func54, Try.ntmps54
  go_wp2_with fail
  refine' wp_region_sure_all ⟨((some 3, [], none) :: (some 4, [0], none) :: (some 5, [], none) :: (some 6, [2], none) :: (some 7, [1, 3], none) :: (some 8, [4, 4], none) :: (some 9, [5], some (5, true)) :: (some 10, [6, 5], some (5, true)) :: (some 11, [7, 5], some (5, true)) :: (some 12, [5], some (5, true)) :: (some 13, [9, 5], some (5, true)) :: (some 14, [5], some (5, true)) :: (some 15, [11, 5], some (5, true)) :: (some 16, [10, 12, 5, 5], some (5, true)) :: (some 17, [8, 13, 5], some (5, true)) :: (some 18, [5, 14], none) :: (some 2, [15, 13, 0, 1, 2, 3, 4, 5, 6, 7, 8, 9, 10, 11, 12, 13, 14, 15], none) :: []), (0 :: 1 :: 0 :: 4 :: 15 :: 31 :: 63 :: 127 :: 255 :: 63 :: 575 :: 63 :: 2111 :: 7743 :: 16383 :: 32767 :: 65535 :: []), (true :: true :: true :: true :: true :: true :: true :: true :: true :: true :: true :: true :: true :: true :: true :: true :: true :: []), [], 0⟩ 17 19 ((0, 3) :: (1, 4) :: (2, 5) :: (3, 6) :: (4, 7) :: (5, 8) :: (6, 9) :: (7, 10) :: (8, 11) :: (9, 12) :: (10, 13) :: (11, 14) :: (12, 15) :: (13, 16) :: (14, 17) :: (15, 18) :: (16, 2) :: []) ((0, 3) :: (1, 4) :: (2, 5) :: (3, 6) :: (4, 7) :: (5, 8) :: (6, 9) :: (7, 10) :: (8, 11) :: (9, 12) :: (10, 13) :: (11, 14) :: (12, 15) :: (13, 16) :: (14, 17) :: (15, 18) :: (16, 2) :: []) (.det _ :: .det _ :: .det _ :: .det _ :: .det _ :: .det _ :: .det _ :: .det _ :: .det _ :: .det _ :: .det _ :: .det _ :: .det _ :: .det _ :: .det _ :: .det _ :: .det _ :: []) (by kernel_rfl) (by kernel_rfl) (by kernel_rfl) rfl (by kernel_rfl) (by kernel_rfl) rfl (by kernel_rfl) ?hone ?hend
  case hone =>
   intro CS frS VS hCS ha hV
   have qs1 := slot_val (t := 1) ha rfl
   simp only [List.getElem_toArray, List.getElem_cons_succ, List.getElem_cons_zero] at qs1
   have HCS := Lib.hid hCS
   have HVS := Lib.hid hV
   clear ha hCS hV
   refine sure_det (js := []) (ts := [1]) (gd := none) (place_at HVS.out (k := 0) rfl) (by rw [HCS.out]; kernel_rfl) ?_ ?_
   ·intro wx hx ρ hρ hs hf; have hρc := hρ.const; have hρf := hρ.func
    obtain ⟨fx1, -⟩ := hf; rw [qs1] at fx1
    clear hs
    clear HCS HVS qs1
    refine run_plain ?_
    unfold runs
    go_simp
    exact detK.mk
   refine sure_det (js := [(0, 3)]) (ts := []) (gd := none) (place_at HVS.out (k := 1) rfl) (by rw [HCS.out]; kernel_rfl) ?_ ?_
   ·intro wx hx ρ hρ hs hf; have hρc := hρ.const; have hρf := hρ.func; obtain ⟨sn0, -⟩ := hs; rw [place_at HVS.out (k := 0) rfl] at sn0; replace sn0 : ρ (.tmp 3) = _ := sn0
    clear hf
    clear HCS HVS qs1
    refine run_plain ?_
    obtain ⟨c0, c1, c2⟩ := hbox wx hx
    unfold runs
    go_simp
    exact detK.mk
   refine sure_det (js := []) (ts := [1]) (gd := none) (place_at HVS.out (k := 2) rfl) (by rw [HCS.out]; kernel_rfl) ?_ ?_
   ·intro wx hx ρ hρ hs hf; have hρc := hρ.const; have hρf := hρ.func
    obtain ⟨fx1, -⟩ := hf; rw [qs1] at fx1
    clear hs
    clear HCS HVS qs1
    refine run_plain ?_
    unfold runs
    go_simp
    exact detK.mk
   refine sure_det (js := [(2, 5)]) (ts := []) (gd := none) (place_at HVS.out (k := 3) rfl) (by rw [HCS.out]; kernel_rfl) ?_ ?_
   ·intro wx hx ρ hρ hs hf; have hρc := hρ.const; have hρf := hρ.func; obtain ⟨sn2, -⟩ := hs; rw [place_at HVS.out (k := 2) rfl] at sn2; replace sn2 : ρ (.tmp 5) = _ := sn2
    clear hf
    clear HCS HVS qs1
    refine run_plain ?_
    obtain ⟨c0, c1, c2⟩ := hbox wx hx
    unfold runs
    go_simp
    exact detK.mk
   refine sure_det (js := [(1, 4), (3, 6)]) (ts := []) (gd := none) (place_at HVS.out (k := 4) rfl) (by rw [HCS.out]; kernel_rfl) ?_ ?_
   ·intro wx hx ρ hρ hs hf; have hρc := hρ.const; have hρf := hρ.func; obtain ⟨sn1, sn3, -⟩ := hs; rw [place_at HVS.out (k := 1) rfl] at sn1; replace sn1 : ρ (.tmp 4) = _ := sn1; rw [place_at HVS.out (k := 3) rfl] at sn3; replace sn3 : ρ (.tmp 6) = _ := sn3
    clear hf
    clear HCS HVS qs1
    refine run_plain ?_
    refine op_call rfl hρ Try.call86 (map_two sn1 sn3) ?_
    refine Calls.mono (may_any t c _) ?_; rintro e w' ⟨rfl, rfl⟩; refine ⟨_, rfl, ?_⟩; rw [h]; exact detK.mk
   refine sure_det (js := [(4, 7)]) (ts := []) (gd := none) (place_at HVS.out (k := 5) rfl) (by rw [HCS.out]; kernel_rfl) ?_ ?_
   ·intro wx hx ρ hρ hs hf; have hρc := hρ.const; have hρf := hρ.func; obtain ⟨sn4, -⟩ := hs; rw [place_at HVS.out (k := 4) rfl] at sn4; replace sn4 : ρ (.tmp 7) = _ := sn4
    clear hf
    clear HCS HVS qs1
    refine run_plain ?_
    refine op_move rfl sn4 ?_
    exact detK.mk
   refine sure_det (js := [(5, 8)]) (ts := [1]) (gd := (some (8, true))) (place_at HVS.out (k := 6) rfl) (by rw [HCS.out]; kernel_rfl) ?_ ?_
   ·intro wx hx ρ hρ hs hf; have hρc := hρ.const; have hρf := hρ.func; obtain ⟨sn5, -⟩ := hs
    obtain ⟨fx1, -⟩ := hf; rw [qs1] at fx1; rw [place_at HVS.out (k := 5) rfl] at sn5; replace sn5 : ρ (.tmp 8) = _ := sn5
    clear HCS HVS qs1
    first
     | (refine run_passed sn5 ?_; exact detK.mk)
     | (refine run_guarded sn5 ?_; unfold runs; go_simp; exact detK.mk)
   refine sure_det (js := [(6, 9), (5, 8)]) (ts := []) (gd := (some (8, true))) (place_at HVS.out (k := 7) rfl) (by rw [HCS.out]; kernel_rfl) ?_ ?_
   ·intro wx hx ρ hρ hs hf; have hρc := hρ.const; have hρf := hρ.func; obtain ⟨sn6, sn5, -⟩ := hs; rw [place_at HVS.out (k := 6) rfl] at sn6; replace sn6 : ρ (.tmp 9) = _ := sn6; rw [place_at HVS.out (k := 5) rfl] at sn5; replace sn5 : ρ (.tmp 8) = _ := sn5
    clear hf
    clear HCS HVS qs1
    first
     | (refine run_passed sn5 ?_; exact detK.mk)
     | (refine run_guarded sn5 ?_; obtain ⟨c0, c1, c2⟩ := hbox wx hx; unfold runs; go_simp; exact detK.mk)
   refine sure_det (js := [(7, 10), (5, 8)]) (ts := []) (gd := (some (8, true))) (place_at HVS.out (k := 8) rfl) (by rw [HCS.out]; kernel_rfl) ?_ ?_
   ·intro wx hx ρ hρ hs hf; have hρc := hρ.const; have hρf := hρ.func; obtain ⟨sn7, sn5, -⟩ := hs; rw [place_at HVS.out (k := 7) rfl] at sn7; replace sn7 : ρ (.tmp 10) = _ := sn7; rw [place_at HVS.out (k := 5) rfl] at sn5; replace sn5 : ρ (.tmp 8) = _ := sn5
    clear hf
    clear HCS HVS qs1
    first
     | (refine run_passed sn5 ?_; exact detK.mk)
     | (refine run_guarded sn5 ?_; unfold runs; go_simp; exact detK.mk)
   refine sure_det (js := [(5, 8)]) (ts := [1]) (gd := (some (8, true))) (place_at HVS.out (k := 9) rfl) (by rw [HCS.out]; kernel_rfl) ?_ ?_
   ·intro wx hx ρ hρ hs hf; have hρc := hρ.const; have hρf := hρ.func; obtain ⟨sn5, -⟩ := hs
    obtain ⟨fx1, -⟩ := hf; rw [qs1] at fx1; rw [place_at HVS.out (k := 5) rfl] at sn5; replace sn5 : ρ (.tmp 8) = _ := sn5
    clear HCS HVS qs1
    first
     | (refine run_passed sn5 ?_; exact detK.mk)
     | (refine run_guarded sn5 ?_; unfold runs; go_simp; exact detK.mk)
   refine sure_det (js := [(9, 12), (5, 8)]) (ts := []) (gd := (some (8, true))) (place_at HVS.out (k := 10) rfl) (by rw [HCS.out]; kernel_rfl) ?_ ?_
   ·intro wx hx ρ hρ hs hf; have hρc := hρ.const; have hρf := hρ.func; obtain ⟨sn9, sn5, -⟩ := hs; rw [place_at HVS.out (k := 9) rfl] at sn9; replace sn9 : ρ (.tmp 12) = _ := sn9; rw [place_at HVS.out (k := 5) rfl] at sn5; replace sn5 : ρ (.tmp 8) = _ := sn5
    clear hf
    clear HCS HVS qs1
    first
     | (refine run_passed sn5 ?_; exact detK.mk)
     | (refine run_guarded sn5 ?_; obtain ⟨c0, c1, c2⟩ := hbox wx hx; unfold runs; go_simp; exact detK.mk)
   refine sure_det (js := [(5, 8)]) (ts := [1]) (gd := (some (8, true))) (place_at HVS.out (k := 11) rfl) (by rw [HCS.out]; kernel_rfl) ?_ ?_
   ·intro wx hx ρ hρ hs hf; have hρc := hρ.const; have hρf := hρ.func; obtain ⟨sn5, -⟩ := hs
    obtain ⟨fx1, -⟩ := hf; rw [qs1] at fx1; rw [place_at HVS.out (k := 5) rfl] at sn5; replace sn5 : ρ (.tmp 8) = _ := sn5
    clear HCS HVS qs1
    first
     | (refine run_passed sn5 ?_; exact detK.mk)
     | (refine run_guarded sn5 ?_; unfold runs; go_simp; exact detK.mk)
   refine sure_det (js := [(11, 14), (5, 8)]) (ts := []) (gd := (some (8, true))) (place_at HVS.out (k := 12) rfl) (by rw [HCS.out]; kernel_rfl) ?_ ?_
   ·intro wx hx ρ hρ hs hf; have hρc := hρ.const; have hρf := hρ.func; obtain ⟨sn11, sn5, -⟩ := hs; rw [place_at HVS.out (k := 11) rfl] at sn11; replace sn11 : ρ (.tmp 14) = _ := sn11; rw [place_at HVS.out (k := 5) rfl] at sn5; replace sn5 : ρ (.tmp 8) = _ := sn5
    clear hf
    clear HCS HVS qs1
    first
     | (refine run_passed sn5 ?_; exact detK.mk)
     | (refine run_guarded sn5 ?_; obtain ⟨c0, c1, c2⟩ := hbox wx hx; unfold runs; go_simp; exact detK.mk)
   refine sure_det (js := [(10, 13), (12, 15), (5, 8)]) (ts := []) (gd := (some (8, true))) (place_at HVS.out (k := 13) rfl) (by rw [HCS.out]; kernel_rfl) ?_ ?_
   ·intro wx hx ρ hρ hs hf; have hρc := hρ.const; have hρf := hρ.func; obtain ⟨sn10, sn12, sn5, -⟩ := hs; rw [place_at HVS.out (k := 10) rfl] at sn10; replace sn10 : ρ (.tmp 13) = _ := sn10; rw [place_at HVS.out (k := 12) rfl] at sn12; replace sn12 : ρ (.tmp 15) = _ := sn12; rw [place_at HVS.out (k := 5) rfl] at sn5; replace sn5 : ρ (.tmp 8) = _ := sn5
    clear hf
    clear HCS HVS qs1
    first
     | (refine run_passed sn5 ?_; exact detK.mk)
     | (refine run_guarded sn5 ?_; refine op_call rfl hρ Try.call87 (map_two sn10 sn12) ?_; refine Calls.mono (may_any t c _) ?_; rintro e w' ⟨rfl, rfl⟩; refine ⟨_, rfl, ?_⟩; rw [h]; exact detK.mk)
   refine sure_det (js := [(8, 11), (13, 16), (5, 8)]) (ts := []) (gd := (some (8, true))) (place_at HVS.out (k := 14) rfl) (by rw [HCS.out]; kernel_rfl) ?_ ?_
   ·intro wx hx ρ hρ hs hf; have hρc := hρ.const; have hρf := hρ.func; obtain ⟨sn8, sn13, sn5, -⟩ := hs; rw [place_at HVS.out (k := 8) rfl] at sn8; replace sn8 : ρ (.tmp 11) = _ := sn8; rw [place_at HVS.out (k := 13) rfl] at sn13; replace sn13 : ρ (.tmp 16) = _ := sn13; rw [place_at HVS.out (k := 5) rfl] at sn5; replace sn5 : ρ (.tmp 8) = _ := sn5
    clear hf
    clear HCS HVS qs1
    first
     | (refine run_passed sn5 ?_; exact detK.mk)
     | (refine run_guarded sn5 ?_; unfold runs; go_simp; exact detK.mk)
   refine sure_det (js := [(5, 8), (14, 17)]) (ts := []) (gd := none) (place_at HVS.out (k := 15) rfl) (by rw [HCS.out]; kernel_rfl) ?_ ?_
   ·intro wx hx ρ hρ hs hf; have hρc := hρ.const; have hρf := hρ.func; obtain ⟨sn5, sn14, -⟩ := hs; rw [place_at HVS.out (k := 5) rfl] at sn5; replace sn5 : ρ (.tmp 8) = _ := sn5; rw [place_at HVS.out (k := 14) rfl] at sn14; replace sn14 : ρ (.tmp 17) = _ := sn14
    clear hf
    clear HCS HVS qs1
    refine run_plain ?_
    first | refine op_pick_t rfl sn5 sn14 ?_ | refine op_pick_f rfl sn5 (hρ.const _) ?_
    exact detK.mk
   refine sure_det (js := [(15, 18)]) (ts := []) (gd := none) (place_at HVS.out (k := 16) rfl) (by rw [HCS.out]; kernel_rfl) ?_ ?_
   ·intro wx hx ρ hρ hs hf; have hρc := hρ.const; have hρf := hρ.func; obtain ⟨sn15, -⟩ := hs; rw [place_at HVS.out (k := 15) rfl] at sn15; replace sn15 : ρ (.tmp 18) = _ := sn15
    clear hf
    clear HCS HVS qs1
    refine run_plain ?_
    refine op_assign rfl sn15 ?_
    exact detK.mk
   exact trivial
  case hend =>
   intro xs wx hx hg
   have gk0 : xs 0 = _ := goods_get hg (i := 0) (j := 0) (d := 3) rfl
   have gk1 : xs 1 = _ := goods_get hg (i := 1) (j := 1) (d := 4) rfl
   have gk2 : xs 2 = _ := goods_get hg (i := 2) (j := 2) (d := 5) rfl
   have gk3 : xs 3 = _ := goods_get hg (i := 3) (j := 3) (d := 6) rfl
   have gk4 : xs 4 = _ := goods_get hg (i := 4) (j := 4) (d := 7) rfl
   have gk5 : xs 5 = _ := goods_get hg (i := 5) (j := 5) (d := 8) rfl
   have gk6 : xs 6 = _ := goods_get hg (i := 6) (j := 6) (d := 9) rfl
   have gk7 : xs 7 = _ := goods_get hg (i := 7) (j := 7) (d := 10) rfl
   have gk8 : xs 8 = _ := goods_get hg (i := 8) (j := 8) (d := 11) rfl
   have gk9 : xs 9 = _ := goods_get hg (i := 9) (j := 9) (d := 12) rfl
   have gk10 : xs 10 = _ := goods_get hg (i := 10) (j := 10) (d := 13) rfl
   have gk11 : xs 11 = _ := goods_get hg (i := 11) (j := 11) (d := 14) rfl
   have gk12 : xs 12 = _ := goods_get hg (i := 12) (j := 12) (d := 15) rfl
   have gk13 : xs 13 = _ := goods_get hg (i := 13) (j := 13) (d := 16) rfl
   have gk14 : xs 14 = _ := goods_get hg (i := 14) (j := 14) (d := 17) rfl
   have gk15 : xs 15 = _ := goods_get hg (i := 15) (j := 15) (d := 18) rfl
   have gk16 : xs 16 = _ := goods_get hg (i := 16) (j := 16) (d := 2) rfl
   clear hg
   simp only [putAll, gk0, gk1, gk2, gk3, gk4, gk5, gk6, gk7, gk8, gk9, gk10, gk11, gk12, gk13, gk14, gk15, gk16]
   clear gk0 gk1 gk2 gk3 gk4 gk5 gk6 gk7 gk8 gk9 gk10 gk11 gk12 gk13 gk14 gk15 gk16
   clear xs
   simp only [Act.put, List.setIfInBounds_toArray, List.set_cons_zero, List.set_cons_succ]
   go_wp2
   go_ret
   exact ⟨rfl, hEx wx hx⟩
 ·obtain ⟨b1, b2, b3, b4⟩ := mayB_true h
  have hr : rightM t c n = ((n : Int) == 8 + t + 8 * c) := by simp [rightM, h]
  rw [hr]
  clear hr
  go_enter Try.func54, Try.ntmps54
  go_wp2_with fail
  refine' wp_region_sure_all ⟨((some 3, [], none) :: (some 4, [0], none) :: (some 5, [], none) :: (some 6, [2], none) :: (some 7, [1, 3], none) :: (some 8, [4, 4], none) :: (some 9, [5], some (5, true)) :: (some 10, [6, 5], some (5, true)) :: (some 11, [7, 5], some (5, true)) :: (some 12, [5], some (5, true)) :: (some 13, [9, 5], some (5, true)) :: (some 14, [5], some (5, true)) :: (some 15, [11, 5], some (5, true)) :: (some 16, [10, 12, 5, 5], some (5, true)) :: (some 17, [8, 13, 5], some (5, true)) :: (some 18, [5, 14], none) :: (some 2, [15, 13, 0, 1, 2, 3, 4, 5, 6, 7, 8, 9, 10, 11, 12, 13, 14, 15], none) :: []), (0 :: 1 :: 0 :: 4 :: 15 :: 31 :: 63 :: 127 :: 255 :: 63 :: 575 :: 63 :: 2111 :: 7743 :: 16383 :: 32767 :: 65535 :: []), (true :: true :: true :: true :: true :: true :: true :: true :: true :: true :: true :: true :: true :: true :: true :: true :: true :: []), [], 0⟩ 17 19 ((0, 3) :: (1, 4) :: (2, 5) :: (3, 6) :: (4, 7) :: (5, 8) :: (6, 9) :: (7, 10) :: (8, 11) :: (9, 12) :: (10, 13) :: (11, 14) :: (12, 15) :: (13, 16) :: (14, 17) :: (15, 18) :: (16, 2) :: []) ((0, 3) :: (1, 4) :: (2, 5) :: (3, 6) :: (4, 7) :: (5, 8) :: (6, 9) :: (7, 10) :: (8, 11) :: (9, 12) :: (10, 13) :: (11, 14) :: (12, 15) :: (13, 16) :: (14, 17) :: (15, 18) :: (16, 2) :: []) (.det _ :: .det _ :: .det _ :: .det _ :: .det _ :: .det _ :: .det _ :: .det _ :: .det _ :: .det _ :: .det _ :: .det _ :: .det _ :: .det _ :: .det _ :: .det _ :: .det _ :: []) (by kernel_rfl) (by kernel_rfl) (by kernel_rfl) rfl (by kernel_rfl) (by kernel_rfl) rfl (by kernel_rfl) ?hone ?hend
  case hone =>
   intro CS frS VS hCS ha hV
   have qs1 := slot_val (t := 1) ha rfl
   simp only [List.getElem_toArray, List.getElem_cons_succ, List.getElem_cons_zero] at qs1
   have HCS := Lib.hid hCS
   have HVS := Lib.hid hV
   clear ha hCS hV
   refine sure_det (js := []) (ts := [1]) (gd := none) (place_at HVS.out (k := 0) rfl) (by rw [HCS.out]; kernel_rfl) ?_ ?_
   ·intro wx hx ρ hρ hs hf; have hρc := hρ.const; have hρf := hρ.func
    obtain ⟨fx1, -⟩ := hf; rw [qs1] at fx1
    clear hs
    clear HCS HVS qs1
    refine run_plain ?_
    unfold runs
    go_simp
    exact detK.mk
   refine sure_det (js := [(0, 3)]) (ts := []) (gd := none) (place_at HVS.out (k := 1) rfl) (by rw [HCS.out]; kernel_rfl) ?_ ?_
   ·intro wx hx ρ hρ hs hf; have hρc := hρ.const; have hρf := hρ.func; obtain ⟨sn0, -⟩ := hs; rw [place_at HVS.out (k := 0) rfl] at sn0; replace sn0 : ρ (.tmp 3) = _ := sn0
    clear hf
    clear HCS HVS qs1
    refine run_plain ?_
    obtain ⟨c0, c1, c2⟩ := hbox wx hx
    unfold runs
    go_simp
    exact detK.mk
   refine sure_det (js := []) (ts := [1]) (gd := none) (place_at HVS.out (k := 2) rfl) (by rw [HCS.out]; kernel_rfl) ?_ ?_
   ·intro wx hx ρ hρ hs hf; have hρc := hρ.const; have hρf := hρ.func
    obtain ⟨fx1, -⟩ := hf; rw [qs1] at fx1
    clear hs
    clear HCS HVS qs1
    refine run_plain ?_
    unfold runs
    go_simp
    exact detK.mk
   refine sure_det (js := [(2, 5)]) (ts := []) (gd := none) (place_at HVS.out (k := 3) rfl) (by rw [HCS.out]; kernel_rfl) ?_ ?_
   ·intro wx hx ρ hρ hs hf; have hρc := hρ.const; have hρf := hρ.func; obtain ⟨sn2, -⟩ := hs; rw [place_at HVS.out (k := 2) rfl] at sn2; replace sn2 : ρ (.tmp 5) = _ := sn2
    clear hf
    clear HCS HVS qs1
    refine run_plain ?_
    obtain ⟨c0, c1, c2⟩ := hbox wx hx
    unfold runs
    go_simp
    exact detK.mk
   refine sure_det (js := [(1, 4), (3, 6)]) (ts := []) (gd := none) (place_at HVS.out (k := 4) rfl) (by rw [HCS.out]; kernel_rfl) ?_ ?_
   ·intro wx hx ρ hρ hs hf; have hρc := hρ.const; have hρf := hρ.func; obtain ⟨sn1, sn3, -⟩ := hs; rw [place_at HVS.out (k := 1) rfl] at sn1; replace sn1 : ρ (.tmp 4) = _ := sn1; rw [place_at HVS.out (k := 3) rfl] at sn3; replace sn3 : ρ (.tmp 6) = _ := sn3
    clear hf
    clear HCS HVS qs1
    refine run_plain ?_
    refine op_call rfl hρ Try.call86 (map_two sn1 sn3) ?_
    first | ((with_reducible refine Calls.mono (may_any t c _) ?_); rintro e w' ⟨rfl, rfl⟩; refine ⟨_, rfl, ?_⟩; rw [h]; exact detK.mk) | ((with_reducible refine Calls.mono (size_any t c (by omega) (by omega) (by omega) (by omega) _) ?_); rintro e w' ⟨rfl, rfl⟩; refine ⟨_, rfl, ?_⟩; exact detK.mk)
   refine sure_det (js := [(4, 7)]) (ts := []) (gd := none) (place_at HVS.out (k := 5) rfl) (by rw [HCS.out]; kernel_rfl) ?_ ?_
   ·intro wx hx ρ hρ hs hf; have hρc := hρ.const; have hρf := hρ.func; obtain ⟨sn4, -⟩ := hs; rw [place_at HVS.out (k := 4) rfl] at sn4; replace sn4 : ρ (.tmp 7) = _ := sn4
    clear hf
    clear HCS HVS qs1
    refine run_plain ?_
    refine op_move rfl sn4 ?_
    exact detK.mk
   refine sure_det (js := [(5, 8)]) (ts := [1]) (gd := (some (8, true))) (place_at HVS.out (k := 6) rfl) (by rw [HCS.out]; kernel_rfl) ?_ ?_
   ·intro wx hx ρ hρ hs hf; have hρc := hρ.const; have hρf := hρ.func; obtain ⟨sn5, -⟩ := hs
    obtain ⟨fx1, -⟩ := hf; rw [qs1] at fx1; rw [place_at HVS.out (k := 5) rfl] at sn5; replace sn5 : ρ (.tmp 8) = _ := sn5
    clear HCS HVS qs1
    first
     | (refine run_passed sn5 ?_; exact detK.mk)
     | (refine run_guarded sn5 ?_; unfold runs; go_simp; exact detK.mk)
   refine sure_det (js := [(6, 9), (5, 8)]) (ts := []) (gd := (some (8, true))) (place_at HVS.out (k := 7) rfl) (by rw [HCS.out]; kernel_rfl) ?_ ?_
   ·intro wx hx ρ hρ hs hf; have hρc := hρ.const; have hρf := hρ.func; obtain ⟨sn6, sn5, -⟩ := hs; rw [place_at HVS.out (k := 6) rfl] at sn6; replace sn6 : ρ (.tmp 9) = _ := sn6; rw [place_at HVS.out (k := 5) rfl] at sn5; replace sn5 : ρ (.tmp 8) = _ := sn5
    clear hf
    clear HCS HVS qs1
    first
     | (refine run_passed sn5 ?_; exact detK.mk)
     | (refine run_guarded sn5 ?_; obtain ⟨c0, c1, c2⟩ := hbox wx hx; unfold runs; go_simp; exact detK.mk)
   refine sure_det (js := [(7, 10), (5, 8)]) (ts := []) (gd := (some (8, true))) (place_at HVS.out (k := 8) rfl) (by rw [HCS.out]; kernel_rfl) ?_ ?_
   ·intro wx hx ρ hρ hs hf; have hρc := hρ.const; have hρf := hρ.func; obtain ⟨sn7, sn5, -⟩ := hs; rw [place_at HVS.out (k := 7) rfl] at sn7; replace sn7 : ρ (.tmp 10) = _ := sn7; rw [place_at HVS.out (k := 5) rfl] at sn5; replace sn5 : ρ (.tmp 8) = _ := sn5
    clear hf
    clear HCS HVS qs1
    first
     | (refine run_passed sn5 ?_; exact detK.mk)
     | (refine run_guarded sn5 ?_; unfold runs; go_simp; exact detK.mk)
   refine sure_det (js := [(5, 8)]) (ts := [1]) (gd := (some (8, true))) (place_at HVS.out (k := 9) rfl) (by rw [HCS.out]; kernel_rfl) ?_ ?_
   ·intro wx hx ρ hρ hs hf; have hρc := hρ.const; have hρf := hρ.func; obtain ⟨sn5, -⟩ := hs
    obtain ⟨fx1, -⟩ := hf; rw [qs1] at fx1; rw [place_at HVS.out (k := 5) rfl] at sn5; replace sn5 : ρ (.tmp 8) = _ := sn5
    clear HCS HVS qs1
    first
     | (refine run_passed sn5 ?_; exact detK.mk)
     | (refine run_guarded sn5 ?_; unfold runs; go_simp; exact detK.mk)
   refine sure_det (js := [(9, 12), (5, 8)]) (ts := []) (gd := (some (8, true))) (place_at HVS.out (k := 10) rfl) (by rw [HCS.out]; kernel_rfl) ?_ ?_
   ·intro wx hx ρ hρ hs hf; have hρc := hρ.const; have hρf := hρ.func; obtain ⟨sn9, sn5, -⟩ := hs; rw [place_at HVS.out (k := 9) rfl] at sn9; replace sn9 : ρ (.tmp 12) = _ := sn9; rw [place_at HVS.out (k := 5) rfl] at sn5; replace sn5 : ρ (.tmp 8) = _ := sn5
    clear hf
    clear HCS HVS qs1
    first
     | (refine run_passed sn5 ?_; exact detK.mk)
     | (refine run_guarded sn5 ?_; obtain ⟨c0, c1, c2⟩ := hbox wx hx; unfold runs; go_simp; exact detK.mk)
   refine sure_det (js := [(5, 8)]) (ts := [1]) (gd := (some (8, true))) (place_at HVS.out (k := 11) rfl) (by rw [HCS.out]; kernel_rfl) ?_ ?_
   ·intro wx hx ρ hρ hs hf; have hρc := hρ.const; have hρf := hρ.func; obtain ⟨sn5, -⟩ := hs
    obtain ⟨fx1, -⟩ := hf; rw [qs1] at fx1; rw [place_at HVS.out (k := 5) rfl] at sn5; replace sn5 : ρ (.tmp 8) = _ := sn5
    clear HCS HVS qs1
    first
     | (refine run_passed sn5 ?_; exact detK.mk)
     | (refine run_guarded sn5 ?_; unfold runs; go_simp; exact detK.mk)
   refine sure_det (js := [(11, 14), (5, 8)]) (ts := []) (gd := (some (8, true))) (place_at HVS.out (k := 12) rfl) (by rw [HCS.out]; kernel_rfl) ?_ ?_
   ·intro wx hx ρ hρ hs hf; have hρc := hρ.const; have hρf := hρ.func; obtain ⟨sn11, sn5, -⟩ := hs; rw [place_at HVS.out (k := 11) rfl] at sn11; replace sn11 : ρ (.tmp 14) = _ := sn11; rw [place_at HVS.out (k := 5) rfl] at sn5; replace sn5 : ρ (.tmp 8) = _ := sn5
    clear hf
    clear HCS HVS qs1
    first
     | (refine run_passed sn5 ?_; exact detK.mk)
     | (refine run_guarded sn5 ?_; obtain ⟨c0, c1, c2⟩ := hbox wx hx; unfold runs; go_simp; exact detK.mk)
   refine sure_det (js := [(10, 13), (12, 15), (5, 8)]) (ts := []) (gd := (some (8, true))) (place_at HVS.out (k := 13) rfl) (by rw [HCS.out]; kernel_rfl) ?_ ?_
   ·intro wx hx ρ hρ hs hf; have hρc := hρ.const; have hρf := hρ.func; obtain ⟨sn10, sn12, sn5, -⟩ := hs; rw [place_at HVS.out (k := 10) rfl] at sn10; replace sn10 : ρ (.tmp 13) = _ := sn10; rw [place_at HVS.out (k := 12) rfl] at sn12; replace sn12 : ρ (.tmp 15) = _ := sn12; rw [place_at HVS.out (k := 5) rfl] at sn5; replace sn5 : ρ (.tmp 8) = _ := sn5
    clear hf
    clear HCS HVS qs1
    first
     | (refine run_passed sn5 ?_; exact detK.mk)
     | (refine run_guarded sn5 ?_; refine op_call rfl hρ Try.call87 (map_two sn10 sn12) ?_; (first | ((with_reducible refine Calls.mono (may_any t c _) ?_); rintro e w' ⟨rfl, rfl⟩; refine ⟨_, rfl, ?_⟩; rw [h]; exact detK.mk) | ((with_reducible refine Calls.mono (size_any t c (by omega) (by omega) (by omega) (by omega) _) ?_); rintro e w' ⟨rfl, rfl⟩; refine ⟨_, rfl, ?_⟩; exact detK.mk)))
   refine sure_det (js := [(8, 11), (13, 16), (5, 8)]) (ts := []) (gd := (some (8, true))) (place_at HVS.out (k := 14) rfl) (by rw [HCS.out]; kernel_rfl) ?_ ?_
   ·intro wx hx ρ hρ hs hf; have hρc := hρ.const; have hρf := hρ.func; obtain ⟨sn8, sn13, sn5, -⟩ := hs; rw [place_at HVS.out (k := 8) rfl] at sn8; replace sn8 : ρ (.tmp 11) = _ := sn8; rw [place_at HVS.out (k := 13) rfl] at sn13; replace sn13 : ρ (.tmp 16) = _ := sn13; rw [place_at HVS.out (k := 5) rfl] at sn5; replace sn5 : ρ (.tmp 8) = _ := sn5
    clear hf
    clear HCS HVS qs1
    first
     | (refine run_passed sn5 ?_; exact detK.mk)
     | (refine run_guarded sn5 ?_; unfold runs; go_simp; exact detK.mk)
   refine sure_det (js := [(5, 8), (14, 17)]) (ts := []) (gd := none) (place_at HVS.out (k := 15) rfl) (by rw [HCS.out]; kernel_rfl) ?_ ?_
   ·intro wx hx ρ hρ hs hf; have hρc := hρ.const; have hρf := hρ.func; obtain ⟨sn5, sn14, -⟩ := hs; rw [place_at HVS.out (k := 5) rfl] at sn5; replace sn5 : ρ (.tmp 8) = _ := sn5; rw [place_at HVS.out (k := 14) rfl] at sn14; replace sn14 : ρ (.tmp 17) = _ := sn14
    clear hf
    clear HCS HVS qs1
    refine run_plain ?_
    first | refine op_pick_t rfl sn5 sn14 ?_ | refine op_pick_f rfl sn5 (hρ.const _) ?_
    exact detK.mk
   refine sure_det (js := [(15, 18)]) (ts := []) (gd := none) (place_at HVS.out (k := 16) rfl) (by rw [HCS.out]; kernel_rfl) ?_ ?_
   ·intro wx hx ρ hρ hs hf; have hρc := hρ.const; have hρf := hρ.func; obtain ⟨sn15, -⟩ := hs; rw [place_at HVS.out (k := 15) rfl] at sn15; replace sn15 : ρ (.tmp 18) = _ := sn15
    clear hf
    clear HCS HVS qs1
    refine run_plain ?_
    refine op_assign rfl sn15 ?_
    exact detK.mk
   exact trivial
  case hend =>
   intro xs wx hx hg
   have gk0 : xs 0 = _ := goods_get hg (i := 0) (j := 0) (d := 3) rfl
   have gk1 : xs 1 = _ := goods_get hg (i := 1) (j := 1) (d := 4) rfl
   have gk2 : xs 2 = _ := goods_get hg (i := 2) (j := 2) (d := 5) rfl
   have gk3 : xs 3 = _ := goods_get hg (i := 3) (j := 3) (d := 6) rfl
   have gk4 : xs 4 = _ := goods_get hg (i := 4) (j := 4) (d := 7) rfl
   have gk5 : xs 5 = _ := goods_get hg (i := 5) (j := 5) (d := 8) rfl
   have gk6 : xs 6 = _ := goods_get hg (i := 6) (j := 6) (d := 9) rfl
   have gk7 : xs 7 = _ := goods_get hg (i := 7) (j := 7) (d := 10) rfl
   have gk8 : xs 8 = _ := goods_get hg (i := 8) (j := 8) (d := 11) rfl
   have gk9 : xs 9 = _ := goods_get hg (i := 9) (j := 9) (d := 12) rfl
   have gk10 : xs 10 = _ := goods_get hg (i := 10) (j := 10) (d := 13) rfl
   have gk11 : xs 11 = _ := goods_get hg (i := 11) (j := 11) (d := 14) rfl
   have gk12 : xs 12 = _ := goods_get hg (i := 12) (j := 12) (d := 15) rfl
   have gk13 : xs 13 = _ := goods_get hg (i := 13) (j := 13) (d := 16) rfl
   have gk14 : xs 14 = _ := goods_get hg (i := 14) (j := 14) (d := 17) rfl
   have gk15 : xs 15 = _ := goods_get hg (i := 15) (j := 15) (d := 18) rfl
   have gk16 : xs 16 = _ := goods_get hg (i := 16) (j := 16) (d := 2) rfl
   clear hg
   simp only [putAll, gk0, gk1, gk2, gk3, gk4, gk5, gk6, gk7, gk8, gk9, gk10, gk11, gk12, gk13, gk14, gk15, gk16]
   clear gk0 gk1 gk2 gk3 gk4 gk5 gk6 gk7 gk8 gk9 gk10 gk11 gk12 gk13 gk14 gk15 gk16
   clear xs
   simp only [Act.put, List.setIfInBounds_toArray, List.set_cons_zero, List.set_cons_succ]
   go_wp2
   go_ret
   exact ⟨rfl, hEx wx hx⟩
theorem field_nat (t r f : Nat) (h1 : 1 ≤ r) (ht : t ≤ 65) (hr : r ≤ 65536) (hf : f ≤ 8) (w : World) :
  Calls Try.prog 58 #[.int .i64 t, .int .i64 r, .int .i64 f] w fun e w' => e = .returned (.int .i64 (fieldN t r f : Nat)) ∧ w = w' :=
 (field_any t r f (by omega) (by omega) (by omega) (by omega) (by omega) (by omega) w).mono fun _ _ ⟨he, hw⟩ => ⟨by rw [he]; congr 2; unfold fieldN; omega, hw⟩
/-- a memory in a box of its own, as it reads in whatever world behind -/
def MemBox (w : World) (b : Nat) (t c : Int) (g L : Nat) (f : Nat → Int) : Prop :=
 w.cell? ⟨b, 0, none⟩ = some (.int .i64 t) ∧ w.cell? ⟨b, 1, none⟩ = some (.int .i64 c) ∧ w.cell? ⟨b, 2, none⟩ = some (.slice (some ⟨g, 0, none⟩) L L) ∧ ∀ i, i < L → w.cell? ⟨g, i, none⟩ = some (.int .u64 (f i))
theorem MemBox.ext {w w' : World} {b : Nat} {t c : Int} {g L : Nat} {f : Nat → Int} (h : MemBox w b t c g L f) (hx : Ext w w') : MemBox w' b t c g L f :=
 ⟨hx.cell h.1, hx.cell h.2.1, hx.cell h.2.2.1, fun i hi => hx.cell (h.2.2.2 i hi)⟩
theorem MemBox.new {w : World} {t c : Int} {g L : Nat} {f : Nat → Int} (h : WordsAt w g L f) : MemBox (w.alloc (.cells #[.int .i64 t, .int .i64 c, .slice (some ⟨g, 0, none⟩) L L] 25)) w.heap.size t c g L f := by
 refine ⟨by simp [go_sem], by simp [go_sem], by simp [go_sem], fun i hi => ?_⟩
 have hx : Ext w (w.alloc (.cells #[.int .i64 t, .int .i64 c, .slice (some ⟨g, 0, none⟩) L L] 25)) := (Below.refl _ w).alloc (Nat.le_refl _) _
 exact hx.cell (h i hi).1
end Go.Proofs.Ytennnhfaghdeoaa
