import Derived.Test.YtennnhfaghdeoaaCell
import Derived.Deep.CutRange
namespace Go.Proofs.Ytennnhfaghdeoaa
open Go.RowKit

/-! wealdref09. -/
theorem newI_made {L : Nat} {t c : Int} {C : Array Value} (w : World) (hC : C = madeCells #[.int .u64 0] L) :
  NewI 25 w L t c (fun _ => 0) (((w.alloc (.cells #[.int .i64 0, .int .i64 0, .slice none 0 0] 25)).alloc (.cells C 26)).alloc (.cells #[.int .i64 t, .int .i64 c, .slice (some ⟨w.heap.size + 1, 0, none⟩) L L] 25)) := by
 refine ⟨((((Below.refl _ w).alloc (Nat.le_refl _) _).alloc (by simp) _).alloc (by simp; omega) _), WordsAt.made (C := C) (e := 26) ?_ hC, ?_, ?_⟩
 ·rw [Below.heap_alloc _ _ _ (by simp)]
  simpa using heap_alloc_new (w.alloc (.cells #[.int .i64 0, .int .i64 0, .slice none 0 0] 25)) (.cells C 26)
 ·rw [Below.heap_alloc _ _ _ (by simp; omega), Below.heap_alloc _ _ _ (by simp)]
  exact heap_alloc_new w _
 ·simpa using heap_alloc_new ((w.alloc (.cells #[.int .i64 0, .int .i64 0, .slice none 0 0] 25)).alloc (.cells C 26)) (.cells #[.int .i64 t, .int .i64 c, .slice (some ⟨w.heap.size + 1, 0, none⟩) L L] 25)
theorem rpin_any (i : Int) (h1 : -1000000 ≤ i) (h2 : i ≤ 1000000) (w : World) :
  Calls Try.prog 57 #[.int .i64 i] w fun e w' => e = .returned (.int .i64 (8 + i)) ∧ w = w' := by
 go_enter Try.func57, Try.ntmps57
 go_wp2
 go_ret
 exact ⟨rfl, rfl⟩
theorem rfield_any (t r f : Int) (h1 : -1000000 ≤ t) (h2 : t ≤ 1000000) (h3 : -100000 ≤ r) (h4 : r ≤ 1000000) (h5 : -1000000 ≤ f) (h6 : f ≤ 1000000) (w : World) :
  Calls Try.prog 59 #[.int .i64 t, .int .i64 r, .int .i64 f] w fun e w' => e = .returned (.int .i64 (8 + t + 8 * (r - 1) + f)) ∧ w = w' := by
 go_enter Try.func59, Try.ntmps59
 go_wp2
 go_ret
 exact ⟨rfl, rfl⟩
theorem rfield_link (t r : Nat) (h1 : 1 ≤ r) (ht : t ≤ 64) (hr : r ≤ 65536) (w : World) :
  Calls Try.prog 59 #[.int .i64 t, .int .i64 r, .int .i64 7] w fun e w' => e = .returned (.int .i64 (linkAt t r : Nat)) ∧ w = w' :=
 (rfield_any t r 7 (by omega) (by omega) (by omega) (by omega) (by omega) (by omega) w).mono fun _ _ ⟨he, hw⟩ => ⟨by rw [he]; congr 2; unfold linkAt; omega, hw⟩
theorem rnext_any (t r : Int) (h1 : -1000000 ≤ t) (h2 : t ≤ 1000000) (h3 : -100000 ≤ r) (h4 : r ≤ 1000000) (w : World) :
  Calls Try.prog 61 #[.int .i64 t, .int .i64 r] w fun e w' => e = .returned (.int .i64 (nextF t r)) ∧ w = w' := by
 by_cases h : r = 0
 ·subst h
  go_enter Try.func61, Try.ntmps61
  go_wp2
  go_ret
  exact ⟨rfl, rfl⟩
 ·have e : nextF t r = 8 + t + 8 * (r - 1) + 0 := by simp [nextF, h]
  rw [e]
  clear e
  go_enter Try.func61, Try.ntmps61
  go_wp2_with (go_at_call 59; refine (rfield_any t r 0 (by omega) (by omega) (by omega) (by omega) (by omega) (by omega) _).mono ?_; rintro e w' ⟨rfl, rfl⟩)
  go_ret
  exact ⟨ret_int (by omega), rfl⟩
theorem rright_cases {t c : Int} {n : Nat} : (rightM t c n = ((n : Int) == 8 + t + 8 * c) ∧ 1 ≤ t ∧ t ≤ 64 ∧ 0 ≤ c ∧ c ≤ 65536) ∨ (rightM t c n = false ∧ ((¬ 1 ≤ t) ∨ (1 ≤ t ∧ ¬ t ≤ 64) ∨ (1 ≤ t ∧ t ≤ 64 ∧ ¬ 0 ≤ c) ∨ (1 ≤ t ∧ t ≤ 64 ∧ 0 ≤ c ∧ ¬ c ≤ 65536))) := by
 by_cases h : 1 ≤ t ∧ t ≤ 64 ∧ 0 ≤ c ∧ c ≤ 65536
 ·exact .inl ⟨by simp [rightM, mayB_of h], h⟩
 ·exact .inr ⟨by simp [rightM, mayB_not h], by omega⟩
theorem mright_any (t c : Int) (A : Option Addr) (n cp : Nat) (w : World) :
  Calls Try.prog 55 #[.agg #[.int .i64 t, .int .i64 c, .slice A n cp]] w fun e w' => e = .returned (.bool (rightM t c n)) ∧ Ext w w' := by
 rcases @rright_cases t c n with ⟨h, h1, h2, h3, h4⟩ | ⟨h, h1 | ⟨h1, h2⟩ | ⟨h1, h2, h3⟩ | ⟨h1, h2, h3, h4⟩⟩
 all_goals
  rw [h]
  clear h
  go_enter Try.func55, Try.ntmps55
  go_wp2
  all_goals go_ret
  all_goals exact ⟨by simp [*], (Below.refl _ _).alloc (Nat.le_refl _) _⟩
theorem rnew_no (t c : Int) (h : mayB t c = false) (w : World) :
  Calls Try.prog 52 #[.int .i64 t, .int .i64 c] w fun e w' => e = .returned (.tuple #[.agg #[.int .i64 0, .int .i64 0, .slice none 0 0], .int .i64 1]) ∧ Ext w w' := by
 have h' : t < 1 ∨ (¬ t < 1 ∧ 64 < t) ∨ (¬ t < 1 ∧ ¬ 64 < t ∧ c < 0) ∨ (¬ t < 1 ∧ ¬ 64 < t ∧ ¬ c < 0 ∧ 65536 < c) := by
  by_cases h2 : 1 ≤ t ∧ t ≤ 64 ∧ 0 ≤ c ∧ c ≤ 65536
  ·rw [mayB_of h2] at h; cases h
  ·omega
 clear h
 rcases h' with h1 | ⟨h1, h2⟩ | ⟨h1, h2, h3⟩ | ⟨h1, h2, h3, h4⟩
 all_goals
  go_enter Try.func52, Try.ntmps52
  go_wp2
  refine bodyPost_ret (v := .tuple #[.agg #[.int .i64 0, .int .i64 0, .slice none 0 0], .int .i64 1]) (by simp [results, Try.results52, go_sem]) rfl ⟨rfl, ?_⟩
  exact (Below.refl _ _).alloc (Nat.le_refl _) _
set_option maxRecDepth 100000 in
set_option maxHeartbeats 4000000 in
theorem rnew_yes (t c : Nat) (ht1 : 1 ≤ t) (ht2 : t ≤ 64) (hc : c ≤ 65536) (w : World) :
  Calls Try.prog 52 #[.int .i64 t, .int .i64 c] w fun e w' => ∃ g, e = .returned (.tuple #[.agg #[.int .i64 t, .int .i64 c, .slice (some ⟨g, 0, none⟩) (memL t c) (memL t c)], .int .i64 0]) ∧ w.heap.size ≤ g ∧ WordsAt w' g (memL t c) (newF t c c) ∧ Ext w w' := by
 obtain ⟨i0, hi0, hz0, hz1, hz2⟩ := info_parts info_u64
 have hL : memL t c ≤ 1000000 := by unfold memL; omega
 have hLe : (8 + (t : Int) + 8 * (c : Int)) = ((memL t c : Nat) : Int) := by unfold memL; omega
 have hL1 : 1 < memL t c := by unfold memL; omega
 generalize hC : madeCells (Value.int .u64 0).cells (memL t c) = C
 have HC := Lib.hid hC
 have hmk : ∀ W, (Instr.makeSlice 23 (.int .i64 ((memL t c : Nat) : Int)) (.int .i64 ((memL t c : Nat) : Int))).run Try.prog W = .ok (.slice (some ⟨W.heap.size, 0, none⟩) (memL t c) (memL t c)) (W.alloc (.cells C 26)) := fun W => by
  have := run_make (P := Try.prog) W 23 26 i0 _ Try.underlying23 hi0 hz0 .i64 .i64 ((memL t c : Nat) : Int) ((memL t c : Nat) : Int) (by omega) (Int.le_refl _) (by rw [hz2]; omega) (by omega)
  simp only [Int.toNat_natCast, hz1, Nat.mul_one] at this
  rw [this, ← HC.out]
 clear hC
 generalize hLL : memL t c = L at *
 have HLL := Lib.hid hLL
 have HLe := Lib.hid hLe
 clear hLL
 rcases Nat.eq_zero_or_pos c with hc0 | hc1
 ·have hc0' : ¬ (0 : Int) < (c : Int) := by omega
  have hone : ¬ (1 : Int) < (c : Int) := by omega
  have H0 := Lib.hid hc0
  clear hc0
  go_enter Try.func52, Try.ntmps52
  go_wp2_with fail
  have hI : NewI 25 w L t c (fun _ => 0) (((w.alloc (.cells #[.int .i64 0, .int .i64 0, .slice none 0 0] 25)).alloc (.cells C 26)).alloc (.cells #[.int .i64 t, .int .i64 c, .slice (some ⟨w.heap.size + 1, 0, none⟩) L L] 25)) := newI_made w HC.out.symm
  generalize ((w.alloc (.cells #[.int .i64 0, .int .i64 0, .slice none 0 0] 25)).alloc (.cells C 26)).alloc (.cells #[.int .i64 t, .int .i64 c, .slice (some ⟨w.heap.size + 1, 0, none⟩) L L] 25) = W at *
  have hN : NewI 25 w L t c (newF t c c) W := hI.congr fun i _ => by rw [H0.out]; unfold newF; simp
  clear hmk hLe hi0 hz0 hz1 hz2 hI
  obtain ⟨e0, e1, e2⟩ := hN.cells
  obtain ⟨d0, d1, d2, f0, f1, f2⟩ := hN.out
  refine wp_loop_rounds 1 ?_
  rw [rounds_succ]
  go_wp2
  refine bodyPost_ret (v := .tuple #[.agg #[.int .i64 t, .int .i64 c, .slice (some ⟨w.heap.size + 1, 0, none⟩) L L], .int .i64 0]) (by simp [results, Try.results52, go_sem, d0, d1, d2]) rfl ⟨w.heap.size + 1, rfl, by omega, ?_, ?_⟩
  ·exact ((hN.row.other (by simp) _).other (by simp) _).other (by simp) _
  ·exact ((hN.ext.setCell (by simp) _).setCell (by simp) _).setCell (by simp) _
 ·go_enter Try.func52, Try.ntmps52
  go_upto_region 5 with (fail)
  have hI : NewI 25 w L t c (fun _ => 0) (((w.alloc (.cells #[.int .i64 0, .int .i64 0, .slice none 0 0] 25)).alloc (.cells C 26)).alloc (.cells #[.int .i64 t, .int .i64 c, .slice (some ⟨w.heap.size + 1, 0, none⟩) L L] 25)) := newI_made w HC.out.symm
  generalize ((w.alloc (.cells #[.int .i64 0, .int .i64 0, .slice none 0 0] 25)).alloc (.cells C 26)).alloc (.cells #[.int .i64 t, .int .i64 c, .slice (some ⟨w.heap.size + 1, 0, none⟩) L L] 25) = W at *
  have hI1 : NewI 25 w L t c (newF t c 1) (W.setCell ⟨w.heap.size + 1, 1, none⟩ (.int .u64 1)) := (hI.set hL1 1).congr fun i _ => by
   rw [newF_zero]
   split
   ·rw [show min c 1 = 1 by omega]; rfl
   ·rfl
  obtain ⟨e0, e1, e2⟩ := hI.cells
  obtain ⟨x1, x2⟩ := hI.at hL1
  clear hmk hLe hi0 hz0 hz1 hz2 hI
  go_wp2
  clear x1 x2 e0 e1 e2
  go_loopw [7] (fun i wr => ∃ r : Nat, 1 ≤ r ∧ r ≤ c ∧ i = .int .i64 r ∧ NewI 25 w L t c (newF t c r) wr) (fun i _ => c - (intOf i).toNat)
  case atStart => exact ⟨1, Nat.le_refl _, hc1, rfl, hI1⟩
  case round =>
   obtain ⟨r, hr1, hr, rfl, hN⟩ := hrel
   rcases Nat.lt_or_ge r c with hrc | hrc
   ·have hlk : linkAt t r < L := by rw [← HLL.out]; exact linkAt_lt hr1 (by omega)
    have hfield := fun W => rfield_link t r hr1 ht2 (by omega) W
    have hstep := fun i => newF_step (t := t) (c := c) hr1 i
    generalize hj : linkAt t r = j at *
    clear hj hI1
    go_wp2_with fail
    refine' wp_region_sure ⟨((some 42, [], none) :: (some 43, [0], none) :: (some 44, [], none) :: (some 45, [], none) :: (some 46, [2, 3], none) :: (some 47, [], none) :: (some 48, [5], none) :: (some 49, [6], none) :: (some 50, [1, 4, 0, 1, 2, 3, 4, 5, 6, 7], none) :: (none, [8, 7, 4, 0, 1, 2, 3, 4, 5, 6, 7], none) :: []), (0 :: 1 :: 0 :: 0 :: 12 :: 0 :: 32 :: 96 :: 255 :: 511 :: []), (true :: true :: true :: true :: true :: true :: true :: true :: []), [], 0⟩ 8 52 ((0, 42) :: (1, 43) :: (2, 44) :: (3, 45) :: (4, 46) :: (5, 47) :: (6, 48) :: (7, 49) :: []) ((0, 42) :: (1, 43) :: (2, 44) :: (3, 45) :: (4, 46) :: (5, 47) :: (6, 48) :: (7, 49) :: []) (.det _ :: .det _ :: .det _ :: .det _ :: .det _ :: .det _ :: .det _ :: .det _ :: []) (by kernel_rfl) (by kernel_rfl) (by kernel_rfl) rfl (by kernel_rfl) (by kernel_rfl) rfl ?hone ?hend
    case hone =>
     intro CS frS VS hCS ha hV
     have qs0 := slot_val (t := 0) ha rfl
     simp only [List.getElem_toArray, List.getElem_cons_succ, List.getElem_cons_zero] at qs0
     have qs6 := slot_val (t := 6) ha rfl
     simp only [List.getElem_toArray, List.getElem_cons_succ, List.getElem_cons_zero] at qs6
     have qs7 := slot_val (t := 7) ha rfl
     simp only [List.getElem_toArray, List.getElem_cons_succ, List.getElem_cons_zero] at qs7
     have HCS := Lib.hid hCS
     have HVS := Lib.hid hV
     clear ha hCS hV
     refine sure_det (js := []) (ts := [6]) (gd := none) (place_at HVS.out (k := 0) rfl) (by rw [HCS.out]; kernel_rfl) ?_ ?_
     ·intro wx hx ρ hρ hs hf; have hρc := hρ.const; have hρf := hρ.func
      obtain ⟨fx6, -⟩ := hf; rw [qs6] at fx6
      clear hs
      clear HCS HVS qs0 qs6 qs7
      refine run_plain ?_
      unfold runs
      go_simp
      exact detK.mk
     refine sure_det (js := [(0, 42)]) (ts := []) (gd := none) (place_at HVS.out (k := 1) rfl) (by rw [HCS.out]; kernel_rfl) ?_ ?_
     ·intro wx hx ρ hρ hs hf; have hρc := hρ.const; have hρf := hρ.func; obtain ⟨sn0, -⟩ := hs; rw [place_at HVS.out (k := 0) rfl] at sn0; replace sn0 : ρ (.tmp 42) = _ := sn0
      clear hf
      clear HCS HVS qs0 qs6 qs7
      refine run_plain ?_
      obtain ⟨e0, e1, e2⟩ := (hN.on hx.drawn).cells
      unfold runs
      go_simp
      exact detK.mk
     refine sure_det (js := []) (ts := [0]) (gd := none) (place_at HVS.out (k := 2) rfl) (by rw [HCS.out]; kernel_rfl) ?_ ?_
     ·intro wx hx ρ hρ hs hf; have hρc := hρ.const; have hρf := hρ.func
      obtain ⟨fx0, -⟩ := hf; rw [qs0] at fx0
      clear hs
      clear HCS HVS qs0 qs6 qs7
      refine run_plain ?_
      refine op_move rfl fx0 ?_
      exact detK.mk
     refine sure_det (js := []) (ts := [7]) (gd := none) (place_at HVS.out (k := 3) rfl) (by rw [HCS.out]; kernel_rfl) ?_ ?_
     ·intro wx hx ρ hρ hs hf; have hρc := hρ.const; have hρf := hρ.func
      obtain ⟨fx7, -⟩ := hf; rw [qs7] at fx7
      clear hs
      clear HCS HVS qs0 qs6 qs7
      refine run_plain ?_
      refine op_move rfl fx7 ?_
      exact detK.mk
     refine sure_det (js := [(2, 44), (3, 45)]) (ts := []) (gd := none) (place_at HVS.out (k := 4) rfl) (by rw [HCS.out]; kernel_rfl) ?_ ?_
     ·intro wx hx ρ hρ hs hf; have hρc := hρ.const; have hρf := hρ.func; obtain ⟨sn2, sn3, -⟩ := hs; rw [place_at HVS.out (k := 2) rfl] at sn2; replace sn2 : ρ (.tmp 44) = _ := sn2; rw [place_at HVS.out (k := 3) rfl] at sn3; replace sn3 : ρ (.tmp 45) = _ := sn3
      clear hf
      clear HCS HVS qs0 qs6 qs7
      refine run_plain ?_
      refine op_call rfl hρ Try.call59 (map_three sn2 sn3 (hρ.const _)) ?_
      refine Calls.mono (hfield _) ?_; rintro e w' ⟨rfl, rfl⟩; refine ⟨_, rfl, ?_⟩; exact detK.mk
     refine sure_det (js := []) (ts := [7]) (gd := none) (place_at HVS.out (k := 5) rfl) (by rw [HCS.out]; kernel_rfl) ?_ ?_
     ·intro wx hx ρ hρ hs hf; have hρc := hρ.const; have hρf := hρ.func
      obtain ⟨fx7, -⟩ := hf; rw [qs7] at fx7
      clear hs
      clear HCS HVS qs0 qs6 qs7
      refine run_plain ?_
      refine op_move rfl fx7 ?_
      exact detK.mk
     refine sure_det (js := [(5, 47)]) (ts := []) (gd := none) (place_at HVS.out (k := 6) rfl) (by rw [HCS.out]; kernel_rfl) ?_ ?_
     ·intro wx hx ρ hρ hs hf; have hρc := hρ.const; have hρf := hρ.func; obtain ⟨sn5, -⟩ := hs; rw [place_at HVS.out (k := 5) rfl] at sn5; replace sn5 : ρ (.tmp 47) = _ := sn5
      clear hf
      clear HCS HVS qs0 qs6 qs7
      refine run_plain ?_
      unfold runs
      go_simp
      exact detK.mk
     refine sure_det (js := [(6, 48)]) (ts := []) (gd := none) (place_at HVS.out (k := 7) rfl) (by rw [HCS.out]; kernel_rfl) ?_ ?_
     ·intro wx hx ρ hρ hs hf; have hρc := hρ.const; have hρf := hρ.func; obtain ⟨sn6, -⟩ := hs; rw [place_at HVS.out (k := 6) rfl] at sn6; replace sn6 : ρ (.tmp 48) = _ := sn6
      clear hf
      clear HCS HVS qs0 qs6 qs7
      refine run_plain ?_
      unfold runs
      go_simp
      exact detK.mk
     exact trivial
    case hend =>
     intro xs wx hx hg
     have gk0 : xs 0 = _ := goods_get hg (i := 0) (j := 0) (d := 42) rfl
     have gk1 : xs 1 = _ := goods_get hg (i := 1) (j := 1) (d := 43) rfl
     have gk2 : xs 2 = _ := goods_get hg (i := 2) (j := 2) (d := 44) rfl
     have gk3 : xs 3 = _ := goods_get hg (i := 3) (j := 3) (d := 45) rfl
     have gk4 : xs 4 = _ := goods_get hg (i := 4) (j := 4) (d := 46) rfl
     have gk5 : xs 5 = _ := goods_get hg (i := 5) (j := 5) (d := 47) rfl
     have gk6 : xs 6 = _ := goods_get hg (i := 6) (j := 6) (d := 48) rfl
     have gk7 : xs 7 = _ := goods_get hg (i := 7) (j := 7) (d := 49) rfl
     clear hg
     simp only [putAll, gk0, gk1, gk2, gk3, gk4, gk5, gk6, gk7]
     clear gk0 gk1 gk2 gk3 gk4 gk5 gk6 gk7
     clear xs
     simp only [Act.put, List.setIfInBounds_toArray, List.set_cons_zero, List.set_cons_succ, List.drop_succ_cons, List.drop_zero]
     obtain ⟨x1, x2⟩ := (hN.on hx.drawn).at hlk
     go_wp2
     have hN2 := ((hN.on hx.drawn).set hlk ((r + 1 : Nat) : Int)).congr fun i _ => (hstep i).symm
     go_roundw
     case rel => exact ⟨r + 1, by omega, by omega, by go_num, by simpa using hN2⟩
     case measure => simp [intOf]; omega
   ·obtain rfl : r = c := by omega
    obtain ⟨e0, e1, e2⟩ := hN.cells
    obtain ⟨d0, d1, d2, f0, f1, f2⟩ := hN.out
    go_wp2
    refine bodyPost_ret (v := .tuple #[.agg #[.int .i64 t, .int .i64 r, .slice (some ⟨w.heap.size + 1, 0, none⟩) L L], .int .i64 0]) (by simp [results, Try.results52, go_sem, d0, d1, d2]) rfl ⟨w.heap.size + 1, rfl, by omega, ?_, ?_⟩
    ·exact ((hN.row.other (by simp) _).other (by simp) _).other (by simp) _
    ·exact ((hN.ext.setCell (by simp) _).setCell (by simp) _).setCell (by simp) _
set_option maxRecDepth 100000 in
set_option maxHeartbeats 1000000 in
theorem msame_yes (t c : Int) (A B : Option Addr) (n cp cp2 : Nat) (l : List Int) (w : World) (hA : WordsV w A n cp l) (hB : WordsV w B n cp2 l) (hn : n ≤ 1000000) :
  Calls Try.prog 53 #[.agg #[.int .i64 t, .int .i64 c, .slice A n cp], .agg #[.int .i64 t, .int .i64 c, .slice B n cp2]] w fun e w' => e = .returned (.bool true) ∧ Ext w w' := by
 have hE : Ext w ((w.alloc (.cells #[.int .i64 t, .int .i64 c, .slice A n cp] 25)).alloc (.cells #[.int .i64 t, .int .i64 c, .slice B n cp2] 25)) := ((Below.refl _ w).alloc (Nat.le_refl _) _).alloc (by simp) _
 generalize hW : ((w.alloc (.cells #[.int .i64 t, .int .i64 c, .slice A n cp] 25)).alloc (.cells #[.int .i64 t, .int .i64 c, .slice B n cp2] 25)) = W at hE
 have HW := Lib.hid hW
 clear hW
 have hbox : ∀ wx, Ext W wx → wx.cell? ⟨w.heap.size, 2, none⟩ = some (.slice A n cp) ∧ wx.cell? ⟨w.heap.size + 1, 2, none⟩ = some (.slice B n cp2) := fun wx hx =>
  ⟨hx.cell (by rw [← HW.out]; simp [go_sem]), hx.cell (by rw [← HW.out]; simp [go_sem])⟩
 go_enter Try.func53, Try.ntmps53
 go_wp2
 rw [HW.out]
 go_loopw [5] (fun i wr => ∃ j : Nat, j ≤ n ∧ i = .int .i64 j ∧ Ext W wr) (fun i _ => n - (intOf i).toNat)
 case atStart => exact ⟨0, Nat.zero_le _, rfl, Ext.refl _⟩
 case round =>
  obtain ⟨j, hj, rfl, hxr⟩ := hrel
  obtain ⟨c2, c3⟩ := hbox wr hxr
  rcases Nat.lt_or_ge j n with hjn | hjn
  ·obtain ⟨a, rfl, ha, -⟩ := hA.at hjn
   obtain ⟨b, rfl, hb, -⟩ := hB.at hjn
   generalize l.getD j 0 = z at ha hb
   have hX : ∀ wx, Ext wr.drew wx → wx.cell? ⟨w.heap.size, 2, none⟩ = some (.slice (some a) n cp) ∧ wx.cell? ⟨w.heap.size + 1, 2, none⟩ = some (.slice (some b) n cp2) ∧ wx.cell? (a.add j) = some (.int .u64 z) ∧ wx.cell? (b.add j) = some (.int .u64 z) := fun wx h =>
    ⟨h.drawn.cell c2, h.drawn.cell c3, ((hE.trans hxr).trans h.drawn).cell ha, ((hE.trans hxr).trans h.drawn).cell hb⟩
   clear hbox hA hB
   go_wp2_with fail
   refine' wp_region_sure_all ⟨((some 34, [], none) :: (some 35, [0], none) :: (some 36, [], none) :: (some 37, [1, 2], none) :: (some 38, [3], none) :: (some 39, [], none) :: (some 40, [5], none) :: (some 41, [], none) :: (some 42, [6, 7], none) :: (some 43, [8], none) :: (some 44, [4, 9], none) :: []), (0 :: 1 :: 0 :: 7 :: 15 :: 0 :: 32 :: 0 :: 224 :: 480 :: 1023 :: []), (true :: true :: true :: true :: true :: true :: true :: true :: true :: true :: true :: []), [], 0⟩ 11 45 ((0, 34) :: (1, 35) :: (2, 36) :: (3, 37) :: (4, 38) :: (5, 39) :: (6, 40) :: (7, 41) :: (8, 42) :: (9, 43) :: (10, 44) :: []) ((0, 34) :: (1, 35) :: (2, 36) :: (3, 37) :: (4, 38) :: (5, 39) :: (6, 40) :: (7, 41) :: (8, 42) :: (9, 43) :: (10, 44) :: []) (.det _ :: .det _ :: .det _ :: .det _ :: .det _ :: .det _ :: .det _ :: .det _ :: .det _ :: .det _ :: .det _ :: []) (by kernel_rfl) (by kernel_rfl) (by kernel_rfl) rfl (by kernel_rfl) (by kernel_rfl) rfl (by kernel_rfl) ?hone ?hend
   case hone =>
    intro CS frS VS hCS ha hV
    have qs2 := slot_val (t := 2) ha rfl
    simp only [List.getElem_toArray, List.getElem_cons_succ, List.getElem_cons_zero] at qs2
    have qs3 := slot_val (t := 3) ha rfl
    simp only [List.getElem_toArray, List.getElem_cons_succ, List.getElem_cons_zero] at qs3
    have qs5 := slot_val (t := 5) ha rfl
    simp only [List.getElem_toArray, List.getElem_cons_succ, List.getElem_cons_zero] at qs5
    have HCS := Lib.hid hCS
    have HVS := Lib.hid hV
    clear ha hCS hV
    refine sure_det (js := []) (ts := [2]) (gd := none) (place_at HVS.out (k := 0) rfl) (by rw [HCS.out]; kernel_rfl) ?_ ?_
    ·intro wx hx ρ hρ hs hf; have hρc := hρ.const; have hρf := hρ.func
     obtain ⟨fx2, -⟩ := hf; rw [qs2] at fx2
     clear hs
     clear HCS HVS qs2 qs3 qs5
     refine run_plain ?_
     unfold runs
     go_simp
     exact detK.mk
    refine sure_det (js := [(0, 34)]) (ts := []) (gd := none) (place_at HVS.out (k := 1) rfl) (by rw [HCS.out]; kernel_rfl) ?_ ?_
    ·intro wx hx ρ hρ hs hf; have hρc := hρ.const; have hρf := hρ.func; obtain ⟨sn0, -⟩ := hs; rw [place_at HVS.out (k := 0) rfl] at sn0; replace sn0 : ρ (.tmp 34) = _ := sn0
     clear hf
     clear HCS HVS qs2 qs3 qs5
     refine run_plain ?_
     obtain ⟨p0, p1, p2, p3⟩ := hX wx hx
     unfold runs
     go_simp
     exact detK.mk
    refine sure_det (js := []) (ts := [5]) (gd := none) (place_at HVS.out (k := 2) rfl) (by rw [HCS.out]; kernel_rfl) ?_ ?_
    ·intro wx hx ρ hρ hs hf; have hρc := hρ.const; have hρf := hρ.func
     obtain ⟨fx5, -⟩ := hf; rw [qs5] at fx5
     clear hs
     clear HCS HVS qs2 qs3 qs5
     refine run_plain ?_
     refine op_move rfl fx5 ?_
     exact detK.mk
    refine sure_det (js := [(1, 35), (2, 36)]) (ts := []) (gd := none) (place_at HVS.out (k := 3) rfl) (by rw [HCS.out]; kernel_rfl) ?_ ?_
    ·intro wx hx ρ hρ hs hf; have hρc := hρ.const; have hρf := hρ.func; obtain ⟨sn1, sn2, -⟩ := hs; rw [place_at HVS.out (k := 1) rfl] at sn1; replace sn1 : ρ (.tmp 35) = _ := sn1; rw [place_at HVS.out (k := 2) rfl] at sn2; replace sn2 : ρ (.tmp 36) = _ := sn2
     clear hf
     clear HCS HVS qs2 qs3 qs5
     refine run_plain ?_
     unfold runs
     go_simp
     exact detK.mk
    refine sure_det (js := [(3, 37)]) (ts := []) (gd := none) (place_at HVS.out (k := 4) rfl) (by rw [HCS.out]; kernel_rfl) ?_ ?_
    ·intro wx hx ρ hρ hs hf; have hρc := hρ.const; have hρf := hρ.func; obtain ⟨sn3, -⟩ := hs; rw [place_at HVS.out (k := 3) rfl] at sn3; replace sn3 : ρ (.tmp 37) = _ := sn3
     clear hf
     clear HCS HVS qs2 qs3 qs5
     refine run_plain ?_
     obtain ⟨p0, p1, p2, p3⟩ := hX wx hx
     unfold runs
     go_simp
     exact detK.mk
    refine sure_det (js := []) (ts := [3]) (gd := none) (place_at HVS.out (k := 5) rfl) (by rw [HCS.out]; kernel_rfl) ?_ ?_
    ·intro wx hx ρ hρ hs hf; have hρc := hρ.const; have hρf := hρ.func
     obtain ⟨fx3, -⟩ := hf; rw [qs3] at fx3
     clear hs
     clear HCS HVS qs2 qs3 qs5
     refine run_plain ?_
     unfold runs
     go_simp
     exact detK.mk
    refine sure_det (js := [(5, 39)]) (ts := []) (gd := none) (place_at HVS.out (k := 6) rfl) (by rw [HCS.out]; kernel_rfl) ?_ ?_
    ·intro wx hx ρ hρ hs hf; have hρc := hρ.const; have hρf := hρ.func; obtain ⟨sn5, -⟩ := hs; rw [place_at HVS.out (k := 5) rfl] at sn5; replace sn5 : ρ (.tmp 39) = _ := sn5
     clear hf
     clear HCS HVS qs2 qs3 qs5
     refine run_plain ?_
     obtain ⟨p0, p1, p2, p3⟩ := hX wx hx
     unfold runs
     go_simp
     exact detK.mk
    refine sure_det (js := []) (ts := [5]) (gd := none) (place_at HVS.out (k := 7) rfl) (by rw [HCS.out]; kernel_rfl) ?_ ?_
    ·intro wx hx ρ hρ hs hf; have hρc := hρ.const; have hρf := hρ.func
     obtain ⟨fx5, -⟩ := hf; rw [qs5] at fx5
     clear hs
     clear HCS HVS qs2 qs3 qs5
     refine run_plain ?_
     refine op_move rfl fx5 ?_
     exact detK.mk
    refine sure_det (js := [(6, 40), (7, 41)]) (ts := []) (gd := none) (place_at HVS.out (k := 8) rfl) (by rw [HCS.out]; kernel_rfl) ?_ ?_
    ·intro wx hx ρ hρ hs hf; have hρc := hρ.const; have hρf := hρ.func; obtain ⟨sn6, sn7, -⟩ := hs; rw [place_at HVS.out (k := 6) rfl] at sn6; replace sn6 : ρ (.tmp 40) = _ := sn6; rw [place_at HVS.out (k := 7) rfl] at sn7; replace sn7 : ρ (.tmp 41) = _ := sn7
     clear hf
     clear HCS HVS qs2 qs3 qs5
     refine run_plain ?_
     unfold runs
     go_simp
     exact detK.mk
    refine sure_det (js := [(8, 42)]) (ts := []) (gd := none) (place_at HVS.out (k := 9) rfl) (by rw [HCS.out]; kernel_rfl) ?_ ?_
    ·intro wx hx ρ hρ hs hf; have hρc := hρ.const; have hρf := hρ.func; obtain ⟨sn8, -⟩ := hs; rw [place_at HVS.out (k := 8) rfl] at sn8; replace sn8 : ρ (.tmp 42) = _ := sn8
     clear hf
     clear HCS HVS qs2 qs3 qs5
     refine run_plain ?_
     obtain ⟨p0, p1, p2, p3⟩ := hX wx hx
     unfold runs
     go_simp
     exact detK.mk
    refine sure_det (js := [(4, 38), (9, 43)]) (ts := []) (gd := none) (place_at HVS.out (k := 10) rfl) (by rw [HCS.out]; kernel_rfl) ?_ ?_
    ·intro wx hx ρ hρ hs hf; have hρc := hρ.const; have hρf := hρ.func; obtain ⟨sn4, sn9, -⟩ := hs; rw [place_at HVS.out (k := 4) rfl] at sn4; replace sn4 : ρ (.tmp 38) = _ := sn4; rw [place_at HVS.out (k := 9) rfl] at sn9; replace sn9 : ρ (.tmp 43) = _ := sn9
     clear hf
     clear HCS HVS qs2 qs3 qs5
     refine run_plain ?_
     unfold runs
     go_simp
     exact detK.mk
    exact trivial
   case hend =>
    intro xs wx hx hg
    have gk0 : xs 0 = _ := goods_get hg (i := 0) (j := 0) (d := 34) rfl
    have gk1 : xs 1 = _ := goods_get hg (i := 1) (j := 1) (d := 35) rfl
    have gk2 : xs 2 = _ := goods_get hg (i := 2) (j := 2) (d := 36) rfl
    have gk3 : xs 3 = _ := goods_get hg (i := 3) (j := 3) (d := 37) rfl
    have gk4 : xs 4 = _ := goods_get hg (i := 4) (j := 4) (d := 38) rfl
    have gk5 : xs 5 = _ := goods_get hg (i := 5) (j := 5) (d := 39) rfl
    have gk6 : xs 6 = _ := goods_get hg (i := 6) (j := 6) (d := 40) rfl
    have gk7 : xs 7 = _ := goods_get hg (i := 7) (j := 7) (d := 41) rfl
    have gk8 : xs 8 = _ := goods_get hg (i := 8) (j := 8) (d := 42) rfl
    have gk9 : xs 9 = _ := goods_get hg (i := 9) (j := 9) (d := 43) rfl
    have gk10 : xs 10 = _ := goods_get hg (i := 10) (j := 10) (d := 44) rfl
    clear hg
    simp only [putAll, gk0, gk1, gk2, gk3, gk4, gk5, gk6, gk7, gk8, gk9, gk10]
    clear gk0 gk1 gk2 gk3 gk4 gk5 gk6 gk7 gk8 gk9 gk10
    clear xs
    simp only [Act.put, List.setIfInBounds_toArray, List.set_cons_zero, List.set_cons_succ]
    go_wp2
    go_roundw
    case rel => exact ⟨j + 1, by omega, by go_num, hxr.trans hx.drawn⟩
    case measure => simp [intOf]; omega
  ·clear hbox hA hB
   go_wp2
   go_ret
   exact ⟨rfl, hE.trans hxr⟩
end Go.Proofs.Ytennnhfaghdeoaa
