/- Proved: the law StreamParts (two texts appended, one behind the other, are both appended as one) returns true at every input and turns none of its arguments. No condition. -/
import Derived.Test.YthncdpopacdekaaShown6
import Derived.Test.YthncdpopacdekaaLift
import Derived.Test.YthncdpopacdekaaStreamOpen
namespace Go.Proofs.Ythncdpopacdekaa
open Go.ChangeShapes Go.WideShapes Go.ChangeAt Go.RowKit

theorem parts_up (A B C : Option Addr) (n c m c2 l c3 : Nat) (k : Int) (w : World) (h : 300 < n ∨ 300 < m ∨ 300 < l ∨ rightB k n = false) :
    Calls Try.prog 7 #[.agg #[.slice A n c, .int .i64 k], .slice B m c2, .slice C l c3] w fun e w' => e = .returned (.bool true) ∧ Ext w w' := by
  have hE : Ext w (w.alloc (.cells #[.slice A n c, .int .i64 k] 24)) := (Below.refl _ w).alloc (Nat.le_refl _) _
  by_cases hn : 300 < n
  · go_enter Try.func7, Try.ntmps7
    go_wp2_with (go_at_call 13; refine (shown6_any _).mono ?_; rintro e w1 ⟨rfl, hx1⟩; have c0 := hx1.cell (p := ⟨w.heap.size, 0, none⟩) (v := .slice A n c) (by simp [go_sem]); replace hE := hE.trans hx1; clear hx1)
    go_ret
    exact ⟨rfl, hE⟩
  · by_cases hm : 300 < m
    · go_enter Try.func7, Try.ntmps7
      go_wp2_with (go_at_call 13; refine (shown6_any _).mono ?_; rintro e w1 ⟨rfl, hx1⟩; have c0 := hx1.cell (p := ⟨w.heap.size, 0, none⟩) (v := .slice A n c) (by simp [go_sem]); replace hE := hE.trans hx1; clear hx1)
      go_ret
      exact ⟨rfl, hE⟩
    · by_cases hl : 300 < l
      · go_enter Try.func7, Try.ntmps7
        go_wp2_with (go_at_call 13; refine (shown6_any _).mono ?_; rintro e w1 ⟨rfl, hx1⟩; have c0 := hx1.cell (p := ⟨w.heap.size, 0, none⟩) (v := .slice A n c) (by simp [go_sem]); replace hE := hE.trans hx1; clear hx1)
        go_ret
        exact ⟨rfl, hE⟩
      · have hr : rightB k n = false := ((h.resolve_left hn).resolve_left hm).resolve_left hl
        go_enter Try.func7, Try.ntmps7
        go_wp2_with (first
          | (go_at_call 13; refine (shown6_any _).mono ?_; rintro e w1 ⟨rfl, hx1⟩; have c0 := hx1.cell (p := ⟨w.heap.size, 0, none⟩) (v := .slice A n c) (by simp [go_sem]); have c1 := hx1.cell (p := ⟨w.heap.size, 1, none⟩) (v := .int .i64 k) (by simp [go_sem]); replace hE := hE.trans hx1; clear hx1)
          | (go_at_call 14; refine (rright_any _ _ _ _ _).mono ?_; rintro e w2 ⟨rfl, hx2⟩; replace hE := hE.trans hx2; clear hx2))
        go_ret
        exact ⟨rfl, hE⟩
set_option maxHeartbeats 4000000 in
theorem parts_walk (A B C : Option Addr) (n c m c2 l c3 : Nat) (k : Int) (d a b : List UInt8) (w : World) (hA : BytesV w A n c d) (hB : BytesV w B m c2 a) (hC : BytesV w C l c3 b) (hn : n ≤ 300) (hm : m ≤ 300) (hl : l ≤ 300) (hr : rightB k n = true) :
    Calls Try.prog 7 #[.agg #[.slice A n c, .int .i64 k], .slice B m c2, .slice C l c3] w fun e w' => e = .returned (.bool true) ∧ Ext w w' := by
  obtain ⟨i0, hi0, hz0, hz1, hz2⟩ := info_parts info_u8
  have hbs : ∀ W : World, (Instr.buildSlice 22 0 #[]).run Try.prog W = .ok (.slice (some ⟨W.heap.size, 0, none⟩) 0 0) (W.alloc (.cells #[] 5)) := fun _ => by kernel_rfl
  have hE : Ext w (w.alloc (.cells #[.slice A n c, .int .i64 k] 24)) := (Below.refl _ w).alloc (Nat.le_refl _) _
  go_enter Try.func7, Try.ntmps7
  go_wp2_with (first
    | (go_at_call 13; refine (shown6_any _).mono ?_; rintro e w1 ⟨rfl, hx1⟩; have c0 := hx1.cell (p := ⟨w.heap.size, 0, none⟩) (v := .slice A n c) (by simp [go_sem]); have c1 := hx1.cell (p := ⟨w.heap.size, 1, none⟩) (v := .int .i64 k) (by simp [go_sem]); replace hE := hE.trans hx1; clear hx1)
    | (go_at_call 14; refine (rright_any _ _ _ _ _).mono ?_; rintro e w2 ⟨rfl, hx2⟩; replace c0 := hx2.cell c0; replace c1 := hx2.cell c1; replace hE := hE.trans hx2; clear hx2))
  refine (append_any A B n c m c2 k d a _ (hA.ext hE) (hB.ext hE) (by omega)).mono ?_
  rintro e w3 ⟨A1, c4, rfl, hV1, hx3⟩
  replace c0 := hx3.cell c0
  replace c1 := hx3.cell c1
  replace hE := hE.trans hx3
  clear hx3
  go_wp2_with fail
  refine (append_any A1 C (n + m) c4 l c3 k (d ++ a) b _ hV1 (hC.ext hE) (by omega)).mono ?_
  rintro e w4 ⟨A2, c5, rfl, hV2, hx4⟩
  replace c0 := hx4.cell c0
  replace c1 := hx4.cell c1
  replace hE := hE.trans hx4
  clear hx4 hV1
  have hz4 : w.heap.size < w4.heap.size := lt_of_cell c0
  have hw4 : Ext w4 (w4.alloc (.cells #[.slice A2 (n + m + l) c5, .int .i64 k] 24)) := (Below.refl _ w4).alloc (Nat.le_refl _) _
  have e2 : (w4.alloc (.cells #[.slice A2 (n + m + l) c5, .int .i64 k] 24)).cell? ⟨w4.heap.size, 0, none⟩ = some (.slice A2 (n + m + l) c5) := by simp [go_sem]
  have e3 : (w4.alloc (.cells #[.slice A2 (n + m + l) c5, .int .i64 k] 24)).cell? ⟨w4.heap.size, 1, none⟩ = some (.int .i64 k) := by simp [go_sem]
  replace c0 := hw4.cell c0
  replace c1 := hw4.cell c1
  replace hE := hE.trans hw4
  replace hV2 := hV2.ext hw4
  have hz5 : w4.heap.size < (w4.alloc (.cells #[.slice A2 (n + m + l) c5, .int .i64 k] 24)).heap.size := by simp
  generalize hg4 : w4.heap.size = g4 at *
  go_wp2_with fail
  clear hw4
  generalize hW : w4.alloc (.cells #[.slice A2 (n + m + l) c5, .int .i64 k] 24) = W at *
  clear hW hg4
  have hboxx : ∀ wx, Ext W.drew wx → wx.cell? ⟨w.heap.size, 0, none⟩ = some (.slice A n c) ∧ wx.cell? ⟨w.heap.size, 1, none⟩ = some (.int .i64 k) := fun wx hx => ⟨hx.drawn.cell c0, hx.drawn.cell c1⟩
  have hAx : ∀ wx, Ext W.drew wx → BytesV wx A n c d := fun wx hx => hA.ext (hE.trans hx.drawn)
  have hBx : ∀ wx, Ext W.drew wx → BytesV wx B m c2 a := fun wx hx => hB.ext (hE.trans hx.drawn)
  have hCx : ∀ wx, Ext W.drew wx → BytesV wx C l c3 b := fun wx hx => hC.ext (hE.trans hx.drawn)
  have hmax : m + l ≤ maxLen := by simp only [maxLen]; omega
  have hmax0 : 0 + m ≤ maxLen := by simp only [maxLen]; omega
  have H0 := Lib.hid c0
  have H1 := Lib.hid c1
  have H2 := Lib.hid e2
  have H3 := Lib.hid e3
  have HB := Lib.hid hB.len
  have HC := Lib.hid hC.len
  have HA := Lib.hid hA.len
  clear c0 c1 e2 e3
  refine' wp_region_sure ⟨((some 36, [], none) :: (some 37, [], none) :: (some 38, [], none) :: (some 39, [1, 2], none) :: (some 40, [], none) :: (some 41, [3, 4, 3], none) :: (some 42, [0, 5, 5], none) :: (some 9, [], none) :: (none, [7, 6, 6, 0, 1, 2, 3, 4, 5, 6, 7], none) :: []), (0 :: 0 :: 0 :: 6 :: 0 :: 30 :: 63 :: 0 :: 255 :: []), (true :: false :: true :: false :: true :: false :: false :: true :: []), [3, 5], 5⟩ 8 62 ((0, 36) :: (1, 37) :: (2, 38) :: (3, 39) :: (4, 40) :: (5, 41) :: (6, 42) :: (7, 9) :: []) ((0, 36) :: (2, 38) :: (4, 40) :: (5, 41) :: (6, 42) :: (7, 9) :: []) (.det _ :: Good.of (fun v w => w.ownsRow W.heap.size 5 1 v 0 []) (fun v w w' h hx => ownsRow_ext h hx) :: .det _ :: Good.of (fun v w => w.ownsRow W.heap.size 5 1 v m (bytesOf a)) (fun v w w' h hx => ownsRow_ext h hx) :: .det _ :: Good.of (fun v w => w.ownsRow W.heap.size 5 1 v (m + l) (bytesOf a ++ bytesOf b)) (fun v w w' h hx => ownsRow_ext h hx) :: Good.of (fun v w => ∃ A' c', v = .agg #[.slice A' (n + (m + l)) c', .int .i64 k] ∧ BytesV w A' (n + (m + l)) c' (d ++ (a ++ b))) (fun v w w' h hx => let ⟨A', c', e, hb⟩ := h; ⟨A', c', e, hb.ext hx⟩) :: Good.box 24 #[.slice none 0 0, .int .i64 0] W.heap.size :: []) (by kernel_rfl) (by kernel_rfl) (by kernel_rfl) rfl (by kernel_rfl) (by kernel_rfl) rfl ?hone ?hend
  case hone =>
    intro CS frS VS hCS ha hV
    have qs1 := slot_val (t := 1) ha rfl
    simp only [List.getElem_toArray, List.getElem_cons_succ, List.getElem_cons_zero] at qs1
    have qs2 := slot_val (t := 2) ha rfl
    simp only [List.getElem_toArray, List.getElem_cons_succ, List.getElem_cons_zero] at qs2
    have qs3 := slot_val (t := 3) ha rfl
    simp only [List.getElem_toArray, List.getElem_cons_succ, List.getElem_cons_zero] at qs3
    have HCS := Lib.hid hCS
    have HVS := Lib.hid hV
    clear ha hCS hV
    -- 0: slot 36 := Op.load 24 t3
    refine sure_det (js := []) (ts := [3]) (gd := none) (place_at HVS.out (k := 0) rfl) (by rw [HCS.out]; kernel_rfl) ?_ ?_
    · intro wx hx ρ hρ hs hf
      have hρc := hρ.const
      have hρf := hρ.func
      obtain ⟨fx3, -⟩ := hf
      rw [qs3] at fx3
      clear hs
      clear HCS HVS qs1 qs2 qs3
      refine run_plain ?_
      obtain ⟨c0, c1⟩ := hboxx wx hx
      unfold runs
      go_simp
      exact detK.mk
    -- 1: slot 37 := Op.buildSlice 22 0 #[]
    refine sure_op (js := []) (ts := []) (gd := none) (place_at HVS.out (k := 1) rfl) (by rw [HCS.out]; kernel_rfl) ?_ ?_
    · intro wx hx ρ hρ hs hf
      have hρc := hρ.const
      have hρf := hρ.func
      clear hs
      clear hf
      clear HCS HVS qs1 qs2 qs3
      refine run_plain ?_
      refine op_buildSlice rfl (by simpa using hbs wx) ?_
      exact ⟨Ext.refl _ |>.alloc (Nat.le_refl _) _, by simp, .inr ⟨wx.heap.size, 0, #[], rfl, hx.size, heap_alloc_new wx _, Nat.le_refl _, Nat.zero_le _, by simp, by simp⟩⟩
    -- 2: slot 38 := Op.move t1
    refine sure_det (js := []) (ts := [1]) (gd := none) (place_at HVS.out (k := 2) rfl) (by rw [HCS.out]; kernel_rfl) ?_ ?_
    · intro wx hx ρ hρ hs hf
      have hρc := hρ.const
      have hρf := hρ.func
      obtain ⟨fx1, -⟩ := hf
      rw [qs1] at fx1
      clear hs
      clear HCS HVS qs1 qs2 qs3
      refine run_plain ?_
      refine op_move rfl fx1 ?_
      exact detK.mk
    -- 3: slot 39 := Op.call { append, args := #[t37, t38], argTypes := #[22, 22] }
    refine sure_wild (js := [(1, 37), (2, 38)]) (ts := []) (gd := none) (place_at HVS.out (k := 3) rfl) (by rw [HCS.out]) (by rw [HCS.out]; kernel_rfl) ?_ ?_
    · intro wx hx ρ hρ hs hf
      have hρc := hρ.const
      have hρf := hρ.func
      obtain ⟨sn1, sn2, -⟩ := hs
      rw [place_at HVS.out (k := 1) rfl] at sn1
      replace sn1 : wx.ownsRow W.heap.size 5 1 (ρ (.tmp 37)) 0 [] := sn1
      rw [place_at HVS.out (k := 2) rfl] at sn2
      replace sn2 : ρ (.tmp 38) = _ := sn2
      clear hf
      clear HCS HVS qs1 qs2 qs3
      refine run_plain ?_
      obtain ⟨v', w', hr, ho, hb, hwr⟩ := run_append_own_any (P := Try.prog) (w := wx) W.heap.size 22 22 5 i0 _ 1 1 Try.underlying22 hi0 hz0 hz1 hz2 rfl (by decide) _ 0 [] sn1 B m c2 (bytesOf a) (by rw [bytesOf_length, HB.out]; omega) (hBx wx hx).cells hB.none0 (bytesOf_one a) hmax0 (by omega) hx.size
      refine op_append rfl rfl sn2 hr ?_
      simp only [Nat.zero_add, List.nil_append] at ho
      exact ⟨⟨hb, hwr⟩, ho⟩
    -- 4: slot 40 := Op.move t2
    refine sure_det (js := []) (ts := [2]) (gd := none) (place_at HVS.out (k := 4) rfl) (by rw [HCS.out]; kernel_rfl) ?_ ?_
    · intro wx hx ρ hρ hs hf
      have hρc := hρ.const
      have hρf := hρ.func
      obtain ⟨fx2, -⟩ := hf
      rw [qs2] at fx2
      clear hs
      clear HCS HVS qs1 qs2 qs3
      refine run_plain ?_
      refine op_move rfl fx2 ?_
      exact detK.mk
    -- 5: slot 41 := Op.call { append, args := #[t39, t40], argTypes := #[22, 22] }
    refine sure_wild (js := [(3, 39), (4, 40)]) (ts := []) (gd := none) (place_at HVS.out (k := 5) rfl) (by rw [HCS.out]) (by rw [HCS.out]; kernel_rfl) ?_ ?_
    · intro wx hx ρ hρ hs hf
      have hρc := hρ.const
      have hρf := hρ.func
      obtain ⟨sn3, sn4, -⟩ := hs
      rw [place_at HVS.out (k := 3) rfl] at sn3
      replace sn3 : wx.ownsRow W.heap.size 5 1 (ρ (.tmp 39)) m (bytesOf a) := sn3
      rw [place_at HVS.out (k := 4) rfl] at sn4
      replace sn4 : ρ (.tmp 40) = _ := sn4
      clear hf
      clear HCS HVS qs1 qs2 qs3
      refine run_plain ?_
      obtain ⟨v', w', hr, ho, hb, hwr⟩ := run_append_own_any (P := Try.prog) (w := wx) W.heap.size 22 22 5 i0 _ 1 1 Try.underlying22 hi0 hz0 hz1 hz2 rfl (by decide) _ m (bytesOf a) sn3 C l c3 (bytesOf b) (by rw [bytesOf_length, HC.out]; omega) (hCx wx hx).cells hC.none0 (bytesOf_one b) hmax (by omega) hx.size
      refine op_append rfl rfl sn4 hr ?_
      exact ⟨⟨hb, hwr⟩, ho⟩
    -- 6: slot 42 := Op.call { call ( 17), args := #[t36, t41], argTypes := #[24, 22] }
    refine sure_op (js := [(0, 36), (5, 41)]) (ts := []) (gd := none) (place_at HVS.out (k := 6) rfl) (by rw [HCS.out]; kernel_rfl) ?_ ?_
    · intro wx hx ρ hρ hs hf
      have hρc := hρ.const
      have hρf := hρ.func
      obtain ⟨sn0, sn5, -⟩ := hs
      rw [place_at HVS.out (k := 0) rfl] at sn0
      replace sn0 : ρ (.tmp 36) = _ := sn0
      rw [place_at HVS.out (k := 5) rfl] at sn5
      replace sn5 : wx.ownsRow W.heap.size 5 1 (ρ (.tmp 41)) (m + l) (bytesOf a ++ bytesOf b) := sn5
      clear hf
      clear HCS HVS qs1 qs2 qs3
      refine run_plain ?_
      obtain ⟨A5, c5, e5, h1, h2, h3, h4, h5⟩ := own_form sn5
      refine op_call rfl hρ Try.call17 (map_two sn0 e5) ?_
      refine Calls.mono (append_any A A5 n c (m + l) c5 k d (a ++ b) _ (hAx wx hx) ⟨by rw [List.length_append, HB.out, HC.out], h1, h2, h3, by rw [bytesOf_append]; exact h4⟩ (by omega)) ?_
      rintro e w' ⟨A', c', rfl, hV, hx5⟩
      exact ⟨_, rfl, hx5, A', c', rfl, hV⟩
    -- 7: slot 9 := Op.alloc 24
    refine sure_op (js := []) (ts := []) (gd := none) (place_at HVS.out (k := 7) rfl) (by rw [HCS.out]; kernel_rfl) ?_ ?_
    · intro wx hx ρ hρ hs hf
      have hρc := hρ.const
      have hρf := hρ.func
      clear hs
      clear hf
      clear HCS HVS qs1 qs2 qs3
      refine run_plain ?_
      refine op_alloc rfl (Try.zeroValue24 _) ?_
      exact ⟨Ext.refl _ |>.alloc (Nat.le_refl _) _, wx.heap.size, rfl, hx.size, heap_alloc_new wx _⟩
    exact trivial
  case hend =>
    intro xs wx hx hg
    have gk0 : xs 0 = _ := goods_get hg (i := 0) (j := 0) (d := 36) rfl
    have gk2 : xs 2 = _ := goods_get hg (i := 1) (j := 2) (d := 38) rfl
    have gk4 : xs 4 = _ := goods_get hg (i := 2) (j := 4) (d := 40) rfl
    have gk5 : wx.ownsRow W.heap.size 5 1 (xs 5) (m + l) (bytesOf a ++ bytesOf b) := goods_get hg (i := 3) (j := 5) (d := 41) rfl
    have gk6 : ∃ A' c', (xs 6) = .agg #[.slice A' (n + (m + l)) c', .int .i64 k] ∧ BytesV wx A' (n + (m + l)) c' (d ++ (a ++ b)) := goods_get hg (i := 4) (j := 6) (d := 42) rfl
    have gk7 : boxG 24 #[.slice none 0 0, .int .i64 0] W.heap.size (xs 7) wx := goods_get hg (i := 5) (j := 7) (d := 9) rfl
    clear hg
    simp only [putAll, gk0, gk2, gk4]
    clear gk0 gk2 gk4
    generalize xs 1 = vx1
    generalize xs 3 = vx3
    generalize xs 5 = vx5 at gk5 ⊢
    generalize xs 6 = vx6 at gk6 ⊢
    generalize xs 7 = vx7 at gk7 ⊢
    clear xs
    simp only [Act.put, List.setIfInBounds_toArray, List.set_cons_zero, List.set_cons_succ, List.drop_succ_cons, List.drop_zero]
    obtain ⟨A3, c6, e6, hV3⟩ := gk6
    obtain ⟨g, e7, hg1, hg2⟩ := gk7
    subst e6 e7
    have b0 : wx.cell? ⟨g, 0, none⟩ = some (.slice none 0 0) := by simp [World.cell?, hg2]
    have b1 : wx.cell? ⟨g, 1, none⟩ = some (.int .i64 0) := by simp [World.cell?, hg2]
    have b2 : wx.frozen? ⟨g, 0, none⟩ = false := by simp [World.frozen?, hg2]
    have b3 : wx.frozen? ⟨g, 1, none⟩ = false := by simp [World.frozen?, hg2]
    go_wp2
    have hX : Ext W ((wx.setCell ⟨g, 0, none⟩ (.slice A3 (n + (m + l)) c6)).setCell ⟨g, 1, none⟩ (.int .i64 k)) := Below.setCell (Below.setCell hx.drawn hg1 _) hg1 _
    have hV4 := hV3.box hg2 (.slice A3 (n + (m + l)) c6) (.int .i64 k) 0 1
    have y0 : ((wx.setCell ⟨g, 0, none⟩ (.slice A3 (n + (m + l)) c6)).setCell ⟨g, 1, none⟩ (.int .i64 k)).cell? ⟨g, 0, none⟩ = some (.slice A3 (n + (m + l)) c6) := by simp [go_sem, b0, b1]
    have y1 : ((wx.setCell ⟨g, 0, none⟩ (.slice A3 (n + (m + l)) c6)).setCell ⟨g, 1, none⟩ (.int .i64 k)).cell? ⟨g, 1, none⟩ = some (.int .i64 k) := by simp [go_sem, b0, b1]
    generalize (wx.setCell ⟨g, 0, none⟩ (.slice A3 (n + (m + l)) c6)).setCell ⟨g, 1, none⟩ (.int .i64 k) = W6 at *
    clear b0 b1 b2 b3 hV3 hg2 hg1 hx gk5 hboxx hAx hBx hCx
    replace hE := hE.trans hX
    replace hV2 := hV2.ext hX
    have hboxy : ∀ wx, Ext W6.drew wx → wx.cell? ⟨w.heap.size, 0, none⟩ = some (.slice A n c) ∧ wx.cell? ⟨w.heap.size, 1, none⟩ = some (.int .i64 k) ∧ wx.cell? ⟨g4, 0, none⟩ = some (.slice A2 (n + m + l) c5) ∧ wx.cell? ⟨g4, 1, none⟩ = some (.int .i64 k) ∧ wx.cell? ⟨g, 0, none⟩ = some (.slice A3 (n + (m + l)) c6) ∧ wx.cell? ⟨g, 1, none⟩ = some (.int .i64 k) := fun wx hx =>
      ⟨hx.drawn.cell (hX.cell H0.out), hx.drawn.cell (hX.cell H1.out), hx.drawn.cell (hX.cell H2.out), hx.drawn.cell (hX.cell H3.out), hx.drawn.cell y0, hx.drawn.cell y1⟩
    have hAy : ∀ wx, Ext W6.drew wx → BytesV wx A n c d := fun wx hx => hA.ext (hE.trans hx.drawn)
    have hXy : ∀ wx, Ext W6.drew wx → BytesV wx A2 (n + m + l) c5 (d ++ a ++ b) := fun wx hx => hV2.ext hx.drawn
    have hYy : ∀ wx, Ext W6.drew wx → BytesV wx A3 (n + (m + l)) c6 (d ++ (a ++ b)) := fun wx hx => hV4.ext hx.drawn
    have hEy : ∀ wx, Ext W6.drew wx → Ext w wx := fun wx hx => hE.trans hx.drawn
    have hsame : sameB (d ++ a ++ b) (d ++ (a ++ b)) k k = true := by simp [sameB]
    clear y0 y1 hV2 hV4 hE hX hA hB hC
    refine' wp_region_sure_all ⟨((some 43, [], none) :: (some 44, [0], none) :: (some 45, [1], some (1, true)) :: (some 46, [1], some (1, true)) :: (some 47, [2, 3, 1, 1], some (1, true)) :: (some 48, [1, 4], none) :: (some 49, [5, 4], none) :: (some 50, [6], some (6, true)) :: (some 51, [7, 6], some (6, true)) :: (some 52, [6], some (6, true)) :: (some 53, [9, 6], some (6, true)) :: (some 54, [8, 10, 6], some (6, true)) :: (some 55, [6, 11], none) :: (some 56, [12, 6], none) :: (some 57, [13], some (13, true)) :: (some 58, [14, 13, 13], some (13, true)) :: (some 59, [13], some (13, true)) :: (some 60, [15, 16, 15, 13], some (13, true)) :: (some 61, [13, 17], none) :: (some 6, [18, 17, 0, 1, 2, 3, 4, 5, 6, 7, 8, 9, 10, 11, 12, 13, 14, 15, 16, 17, 18], none) :: []), (0 :: 1 :: 3 :: 3 :: 15 :: 31 :: 63 :: 127 :: 255 :: 127 :: 639 :: 2047 :: 4095 :: 8191 :: 16383 :: 32767 :: 16383 :: 131071 :: 262143 :: 524287 :: []), (true :: true :: true :: true :: true :: true :: true :: true :: true :: true :: true :: true :: true :: true :: true :: false :: true :: true :: true :: true :: []), [], 0⟩ 20 62 ((0, 43) :: (1, 44) :: (2, 45) :: (3, 46) :: (4, 47) :: (5, 48) :: (6, 49) :: (7, 50) :: (8, 51) :: (9, 52) :: (10, 53) :: (11, 54) :: (12, 55) :: (13, 56) :: (14, 57) :: (15, 58) :: (16, 59) :: (17, 60) :: (18, 61) :: (19, 6) :: []) ((0, 43) :: (1, 44) :: (2, 45) :: (3, 46) :: (4, 47) :: (5, 48) :: (6, 49) :: (7, 50) :: (8, 51) :: (9, 52) :: (10, 53) :: (11, 54) :: (12, 55) :: (13, 56) :: (14, 57) :: (15, 58) :: (16, 59) :: (17, 60) :: (18, 61) :: (19, 6) :: []) (.det _ :: .det _ :: .det _ :: .det _ :: .det _ :: .det _ :: .det _ :: .det _ :: .det _ :: .det _ :: .det _ :: .det _ :: .det _ :: .det _ :: .det _ :: Good.of (fun v w => ∃ A' c', v = .agg #[.slice A' n c', .int .i64 k] ∧ BytesV w A' n c' d) (fun v w w' h hx => let ⟨A', c', e, hb⟩ := h; ⟨A', c', e, hb.ext hx⟩) :: .det _ :: .det _ :: .det _ :: .det _ :: []) (by kernel_rfl) (by kernel_rfl) (by kernel_rfl) rfl (by kernel_rfl) (by kernel_rfl) rfl (by kernel_rfl) ?hone ?hend
    case hone =>
      intro CS frS VS hCS ha hV
      have qs3 := slot_val (t := 3) ha rfl
      simp only [List.getElem_toArray, List.getElem_cons_succ, List.getElem_cons_zero] at qs3
      have qs7 := slot_val (t := 7) ha rfl
      simp only [List.getElem_toArray, List.getElem_cons_succ, List.getElem_cons_zero] at qs7
      have qs8 := slot_val (t := 8) ha rfl
      simp only [List.getElem_toArray, List.getElem_cons_succ, List.getElem_cons_zero] at qs8
      have qs9 := slot_val (t := 9) ha rfl
      simp only [List.getElem_toArray, List.getElem_cons_succ, List.getElem_cons_zero] at qs9
      have HCS := Lib.hid hCS
      have HVS := Lib.hid hV
      clear ha hCS hV
      -- 0: slot 43 := Op.move t7
      refine sure_det (js := []) (ts := [7]) (gd := none) (place_at HVS.out (k := 0) rfl) (by rw [HCS.out]; kernel_rfl) ?_ ?_
      · intro wx hx ρ hρ hs hf
        have hρc := hρ.const
        have hρf := hρ.func
        obtain ⟨fx7, -⟩ := hf
        rw [qs7] at fx7
        clear hs
        clear HCS HVS qs3 qs7 qs8 qs9
        refine run_plain ?_
        refine op_move rfl fx7 ?_
        exact detK.mk
      -- 1: slot 44 := Op.move t43
      refine sure_det (js := [(0, 43)]) (ts := []) (gd := none) (place_at HVS.out (k := 1) rfl) (by rw [HCS.out]; kernel_rfl) ?_ ?_
      · intro wx hx ρ hρ hs hf
        have hρc := hρ.const
        have hρf := hρ.func
        obtain ⟨sn0, -⟩ := hs
        rw [place_at HVS.out (k := 0) rfl] at sn0
        replace sn0 : ρ (.tmp 43) = _ := sn0
        clear hf
        clear HCS HVS qs3 qs7 qs8 qs9
        refine run_plain ?_
        refine op_move rfl sn0 ?_
        exact detK.mk
      -- 2: slot 45 := Op.load 24 t8
      refine sure_det (js := [(1, 44)]) (ts := [8]) (gd := (some (44, true))) (place_at HVS.out (k := 2) rfl) (by rw [HCS.out]; kernel_rfl) ?_ ?_
      · intro wx hx ρ hρ hs hf
        have hρc := hρ.const
        have hρf := hρ.func
        obtain ⟨sn1, -⟩ := hs
        obtain ⟨fx8, -⟩ := hf
        rw [qs8] at fx8
        rw [place_at HVS.out (k := 1) rfl] at sn1
        replace sn1 : ρ (.tmp 44) = _ := sn1
        clear HCS HVS qs3 qs7 qs8 qs9
        first
          | (refine run_passed sn1 ?_
             exact detK.mk)
          | (refine run_guarded sn1 ?_
             obtain ⟨c0, c1, e2, e3, y0, y1⟩ := hboxy wx hx
             unfold runs
             go_simp
             exact detK.mk)
      -- 3: slot 46 := Op.load 24 t9
      refine sure_det (js := [(1, 44)]) (ts := [9]) (gd := (some (44, true))) (place_at HVS.out (k := 3) rfl) (by rw [HCS.out]; kernel_rfl) ?_ ?_
      · intro wx hx ρ hρ hs hf
        have hρc := hρ.const
        have hρf := hρ.func
        obtain ⟨sn1, -⟩ := hs
        obtain ⟨fx9, -⟩ := hf
        rw [qs9] at fx9
        rw [place_at HVS.out (k := 1) rfl] at sn1
        replace sn1 : ρ (.tmp 44) = _ := sn1
        clear HCS HVS qs3 qs7 qs8 qs9
        first
          | (refine run_passed sn1 ?_
             exact detK.mk)
          | (refine run_guarded sn1 ?_
             obtain ⟨c0, c1, e2, e3, y0, y1⟩ := hboxy wx hx
             unfold runs
             go_simp
             exact detK.mk)
      -- 4: slot 47 := Op.call { call ( 16), args := #[t45, t46], argTypes := #[24, 24] }
      refine sure_det (js := [(2, 45), (3, 46), (1, 44)]) (ts := []) (gd := (some (44, true))) (place_at HVS.out (k := 4) rfl) (by rw [HCS.out]; kernel_rfl) ?_ ?_
      · intro wx hx ρ hρ hs hf
        have hρc := hρ.const
        have hρf := hρ.func
        obtain ⟨sn2, sn3, sn1, -⟩ := hs
        rw [place_at HVS.out (k := 2) rfl] at sn2
        replace sn2 : ρ (.tmp 45) = _ := sn2
        rw [place_at HVS.out (k := 3) rfl] at sn3
        replace sn3 : ρ (.tmp 46) = _ := sn3
        rw [place_at HVS.out (k := 1) rfl] at sn1
        replace sn1 : ρ (.tmp 44) = _ := sn1
        clear hf
        clear HCS HVS qs3 qs7 qs8 qs9
        first
          | (refine run_passed sn1 ?_
             exact detK.mk)
          | (refine run_guarded sn1 ?_
             refine op_call rfl hρ Try.call16 (map_two sn2 sn3) ?_
             refine Calls.mono (same_any A2 A3 _ _ _ _ k k _ _ _ (hXy wx hx) (hYy wx hx)) ?_
             rw [hsame]
             rintro e w' ⟨rfl, hx5⟩
             refine ⟨_, rfl, ?_⟩
             exact detK.ext hx5)
      -- 5: slot 48 := Op.pick t44 t47 ((Value.bool false))
      refine sure_det (js := [(1, 44), (4, 47)]) (ts := []) (gd := none) (place_at HVS.out (k := 5) rfl) (by rw [HCS.out]; kernel_rfl) ?_ ?_
      · intro wx hx ρ hρ hs hf
        have hρc := hρ.const
        have hρf := hρ.func
        obtain ⟨sn1, sn4, -⟩ := hs
        rw [place_at HVS.out (k := 1) rfl] at sn1
        replace sn1 : ρ (.tmp 44) = _ := sn1
        rw [place_at HVS.out (k := 4) rfl] at sn4
        replace sn4 : ρ (.tmp 47) = _ := sn4
        clear hf
        clear HCS HVS qs3 qs7 qs8 qs9
        refine run_plain ?_
        first | refine op_pick_t rfl sn1 sn4 ?_ | refine op_pick_f rfl sn1 (hρ.const _) ?_
        exact detK.mk
      -- 6: slot 49 := Op.move t48
      refine sure_det (js := [(5, 48)]) (ts := []) (gd := none) (place_at HVS.out (k := 6) rfl) (by rw [HCS.out]; kernel_rfl) ?_ ?_
      · intro wx hx ρ hρ hs hf
        have hρc := hρ.const
        have hρf := hρ.func
        obtain ⟨sn5, -⟩ := hs
        rw [place_at HVS.out (k := 5) rfl] at sn5
        replace sn5 : ρ (.tmp 48) = _ := sn5
        clear hf
        clear HCS HVS qs3 qs7 qs8 qs9
        refine run_plain ?_
        refine op_move rfl sn5 ?_
        exact detK.mk
      -- 7: slot 50 := Op.fieldAddr 24 t8 1
      refine sure_det (js := [(6, 49)]) (ts := [8]) (gd := (some (49, true))) (place_at HVS.out (k := 7) rfl) (by rw [HCS.out]; kernel_rfl) ?_ ?_
      · intro wx hx ρ hρ hs hf
        have hρc := hρ.const
        have hρf := hρ.func
        obtain ⟨sn6, -⟩ := hs
        obtain ⟨fx8, -⟩ := hf
        rw [qs8] at fx8
        rw [place_at HVS.out (k := 6) rfl] at sn6
        replace sn6 : ρ (.tmp 49) = _ := sn6
        clear HCS HVS qs3 qs7 qs8 qs9
        first
          | (refine run_passed sn6 ?_
             exact detK.mk)
          | (refine run_guarded sn6 ?_
             unfold runs
             go_simp
             exact detK.mk)
      -- 8: slot 51 := Op.load 3 t50
      refine sure_det (js := [(7, 50), (6, 49)]) (ts := []) (gd := (some (49, true))) (place_at HVS.out (k := 8) rfl) (by rw [HCS.out]; kernel_rfl) ?_ ?_
      · intro wx hx ρ hρ hs hf
        have hρc := hρ.const
        have hρf := hρ.func
        obtain ⟨sn7, sn6, -⟩ := hs
        rw [place_at HVS.out (k := 7) rfl] at sn7
        replace sn7 : ρ (.tmp 50) = _ := sn7
        rw [place_at HVS.out (k := 6) rfl] at sn6
        replace sn6 : ρ (.tmp 49) = _ := sn6
        clear hf
        clear HCS HVS qs3 qs7 qs8 qs9
        first
          | (refine run_passed sn6 ?_
             exact detK.mk)
          | (refine run_guarded sn6 ?_
             obtain ⟨c0, c1, e2, e3, y0, y1⟩ := hboxy wx hx
             unfold runs
             go_simp
             exact detK.mk)
      -- 9: slot 52 := Op.fieldAddr 24 t3 1
      refine sure_det (js := [(6, 49)]) (ts := [3]) (gd := (some (49, true))) (place_at HVS.out (k := 9) rfl) (by rw [HCS.out]; kernel_rfl) ?_ ?_
      · intro wx hx ρ hρ hs hf
        have hρc := hρ.const
        have hρf := hρ.func
        obtain ⟨sn6, -⟩ := hs
        obtain ⟨fx3, -⟩ := hf
        rw [qs3] at fx3
        rw [place_at HVS.out (k := 6) rfl] at sn6
        replace sn6 : ρ (.tmp 49) = _ := sn6
        clear HCS HVS qs3 qs7 qs8 qs9
        first
          | (refine run_passed sn6 ?_
             exact detK.mk)
          | (refine run_guarded sn6 ?_
             unfold runs
             go_simp
             exact detK.mk)
      -- 10: slot 53 := Op.load 3 t52
      refine sure_det (js := [(9, 52), (6, 49)]) (ts := []) (gd := (some (49, true))) (place_at HVS.out (k := 10) rfl) (by rw [HCS.out]; kernel_rfl) ?_ ?_
      · intro wx hx ρ hρ hs hf
        have hρc := hρ.const
        have hρf := hρ.func
        obtain ⟨sn9, sn6, -⟩ := hs
        rw [place_at HVS.out (k := 9) rfl] at sn9
        replace sn9 : ρ (.tmp 52) = _ := sn9
        rw [place_at HVS.out (k := 6) rfl] at sn6
        replace sn6 : ρ (.tmp 49) = _ := sn6
        clear hf
        clear HCS HVS qs3 qs7 qs8 qs9
        first
          | (refine run_passed sn6 ?_
             exact detK.mk)
          | (refine run_guarded sn6 ?_
             obtain ⟨c0, c1, e2, e3, y0, y1⟩ := hboxy wx hx
             unfold runs
             go_simp
             exact detK.mk)
      -- 11: slot 54 := Op.binOp BinOp.eql 3 t51 t53 3
      refine sure_det (js := [(8, 51), (10, 53), (6, 49)]) (ts := []) (gd := (some (49, true))) (place_at HVS.out (k := 11) rfl) (by rw [HCS.out]; kernel_rfl) ?_ ?_
      · intro wx hx ρ hρ hs hf
        have hρc := hρ.const
        have hρf := hρ.func
        obtain ⟨sn8, sn10, sn6, -⟩ := hs
        rw [place_at HVS.out (k := 8) rfl] at sn8
        replace sn8 : ρ (.tmp 51) = _ := sn8
        rw [place_at HVS.out (k := 10) rfl] at sn10
        replace sn10 : ρ (.tmp 53) = _ := sn10
        rw [place_at HVS.out (k := 6) rfl] at sn6
        replace sn6 : ρ (.tmp 49) = _ := sn6
        clear hf
        clear HCS HVS qs3 qs7 qs8 qs9
        first
          | (refine run_passed sn6 ?_
             exact detK.mk)
          | (refine run_guarded sn6 ?_
             unfold runs
             go_simp
             exact detK.mk)
      -- 12: slot 55 := Op.pick t49 t54 ((Value.bool false))
      refine sure_det (js := [(6, 49), (11, 54)]) (ts := []) (gd := none) (place_at HVS.out (k := 12) rfl) (by rw [HCS.out]; kernel_rfl) ?_ ?_
      · intro wx hx ρ hρ hs hf
        have hρc := hρ.const
        have hρf := hρ.func
        obtain ⟨sn6, sn11, -⟩ := hs
        rw [place_at HVS.out (k := 6) rfl] at sn6
        replace sn6 : ρ (.tmp 49) = _ := sn6
        rw [place_at HVS.out (k := 11) rfl] at sn11
        replace sn11 : ρ (.tmp 54) = _ := sn11
        clear hf
        clear HCS HVS qs3 qs7 qs8 qs9
        refine run_plain ?_
        first | refine op_pick_t rfl sn6 sn11 ?_ | refine op_pick_f rfl sn6 (hρ.const _) ?_
        exact detK.mk
      -- 13: slot 56 := Op.move t55
      refine sure_det (js := [(12, 55)]) (ts := []) (gd := none) (place_at HVS.out (k := 13) rfl) (by rw [HCS.out]; kernel_rfl) ?_ ?_
      · intro wx hx ρ hρ hs hf
        have hρc := hρ.const
        have hρf := hρ.func
        obtain ⟨sn12, -⟩ := hs
        rw [place_at HVS.out (k := 12) rfl] at sn12
        replace sn12 : ρ (.tmp 55) = _ := sn12
        clear hf
        clear HCS HVS qs3 qs7 qs8 qs9
        refine run_plain ?_
        refine op_move rfl sn12 ?_
        exact detK.mk
      -- 14: slot 57 := Op.load 24 t3
      refine sure_det (js := [(13, 56)]) (ts := [3]) (gd := (some (56, true))) (place_at HVS.out (k := 14) rfl) (by rw [HCS.out]; kernel_rfl) ?_ ?_
      · intro wx hx ρ hρ hs hf
        have hρc := hρ.const
        have hρf := hρ.func
        obtain ⟨sn13, -⟩ := hs
        obtain ⟨fx3, -⟩ := hf
        rw [qs3] at fx3
        rw [place_at HVS.out (k := 13) rfl] at sn13
        replace sn13 : ρ (.tmp 56) = _ := sn13
        clear HCS HVS qs3 qs7 qs8 qs9
        first
          | (refine run_passed sn13 ?_
             exact detK.mk)
          | (refine run_guarded sn13 ?_
             obtain ⟨c0, c1, e2, e3, y0, y1⟩ := hboxy wx hx
             unfold runs
             go_simp
             exact detK.mk)
      -- 15: slot 58 := Op.call { call ( 17), args := #[t57, (Value.slice none 0 0)], argTypes := #[24, 22] }
      refine sure_op (js := [(14, 57), (13, 56)]) (ts := []) (gd := (some (56, true))) (place_at HVS.out (k := 15) rfl) (by rw [HCS.out]; kernel_rfl) ?_ ?_
      · intro wx hx ρ hρ hs hf
        have hρc := hρ.const
        have hρf := hρ.func
        obtain ⟨sn14, sn13, -⟩ := hs
        rw [place_at HVS.out (k := 14) rfl] at sn14
        replace sn14 : ρ (.tmp 57) = _ := sn14
        rw [place_at HVS.out (k := 13) rfl] at sn13
        replace sn13 : ρ (.tmp 56) = _ := sn13
        clear hf
        clear HCS HVS qs3 qs7 qs8 qs9
        refine run_guarded sn13 ?_
        refine op_call rfl hρ Try.call17 (map_two sn14 (hρ.const _)) ?_
        refine Calls.mono (append_any A none n c 0 0 k d [] _ (hAy wx hx) (bytes_nil _) (by omega)) ?_
        rintro e w' ⟨A', c', rfl, hV, hx5⟩
        rw [List.append_nil] at hV
        exact ⟨_, rfl, hx5, A', c', rfl, hV⟩
      -- 16: slot 59 := Op.load 24 t3
      refine sure_det (js := [(13, 56)]) (ts := [3]) (gd := (some (56, true))) (place_at HVS.out (k := 16) rfl) (by rw [HCS.out]; kernel_rfl) ?_ ?_
      · intro wx hx ρ hρ hs hf
        have hρc := hρ.const
        have hρf := hρ.func
        obtain ⟨sn13, -⟩ := hs
        obtain ⟨fx3, -⟩ := hf
        rw [qs3] at fx3
        rw [place_at HVS.out (k := 13) rfl] at sn13
        replace sn13 : ρ (.tmp 56) = _ := sn13
        clear HCS HVS qs3 qs7 qs8 qs9
        first
          | (refine run_passed sn13 ?_
             exact detK.mk)
          | (refine run_guarded sn13 ?_
             obtain ⟨c0, c1, e2, e3, y0, y1⟩ := hboxy wx hx
             unfold runs
             go_simp
             exact detK.mk)
      -- 17: slot 60 := Op.call { call ( 16), args := #[t58, t59], argTypes := #[24, 24] }
      refine sure_det (js := [(15, 58), (16, 59), (13, 56)]) (ts := []) (gd := (some (56, true))) (place_at HVS.out (k := 17) rfl) (by rw [HCS.out]; kernel_rfl) ?_ ?_
      · intro wx hx ρ hρ hs hf
        have hρc := hρ.const
        have hρf := hρ.func
        obtain ⟨sn15, sn16, sn13, -⟩ := hs
        rw [place_at HVS.out (k := 15) rfl] at sn15
        replace sn15 : ∃ A' c', (ρ (.tmp 58)) = .agg #[.slice A' n c', .int .i64 k] ∧ BytesV wx A' n c' d := sn15
        rw [place_at HVS.out (k := 16) rfl] at sn16
        replace sn16 : ρ (.tmp 59) = _ := sn16
        rw [place_at HVS.out (k := 13) rfl] at sn13
        replace sn13 : ρ (.tmp 56) = _ := sn13
        clear hf
        clear HCS HVS qs3 qs7 qs8 qs9
        first
          | (refine run_passed sn13 ?_
             exact detK.mk)
          | (refine run_guarded sn13 ?_
             obtain ⟨A7, c7, e7, hV7⟩ := sn15
             refine op_call rfl hρ Try.call16 (map_two e7 sn16) ?_
             refine Calls.mono (same_yes A7 A n c7 c k _ _ hV7 (hAy wx hx)) ?_
             rintro e w' ⟨rfl, hx5⟩
             refine ⟨_, rfl, ?_⟩
             exact detK.ext hx5)
      -- 18: slot 61 := Op.pick t56 t60 ((Value.bool false))
      refine sure_det (js := [(13, 56), (17, 60)]) (ts := []) (gd := none) (place_at HVS.out (k := 18) rfl) (by rw [HCS.out]; kernel_rfl) ?_ ?_
      · intro wx hx ρ hρ hs hf
        have hρc := hρ.const
        have hρf := hρ.func
        obtain ⟨sn13, sn17, -⟩ := hs
        rw [place_at HVS.out (k := 13) rfl] at sn13
        replace sn13 : ρ (.tmp 56) = _ := sn13
        rw [place_at HVS.out (k := 17) rfl] at sn17
        replace sn17 : ρ (.tmp 60) = _ := sn17
        clear hf
        clear HCS HVS qs3 qs7 qs8 qs9
        refine run_plain ?_
        first | refine op_pick_t rfl sn13 sn17 ?_ | refine op_pick_f rfl sn13 (hρ.const _) ?_
        exact detK.mk
      -- 19: slot 6 := Op.assign t61
      refine sure_det (js := [(18, 61)]) (ts := []) (gd := none) (place_at HVS.out (k := 19) rfl) (by rw [HCS.out]; kernel_rfl) ?_ ?_
      · intro wx hx ρ hρ hs hf
        have hρc := hρ.const
        have hρf := hρ.func
        obtain ⟨sn18, -⟩ := hs
        rw [place_at HVS.out (k := 18) rfl] at sn18
        replace sn18 : ρ (.tmp 61) = _ := sn18
        clear hf
        clear HCS HVS qs3 qs7 qs8 qs9
        refine run_plain ?_
        refine op_assign rfl sn18 ?_
        exact detK.mk
      exact trivial
    case hend =>
      intro xs wx hx hg
      have gk0 : xs 0 = _ := goods_get hg (i := 0) (j := 0) (d := 43) rfl
      have gk1 : xs 1 = _ := goods_get hg (i := 1) (j := 1) (d := 44) rfl
      have gk2 : xs 2 = _ := goods_get hg (i := 2) (j := 2) (d := 45) rfl
      have gk3 : xs 3 = _ := goods_get hg (i := 3) (j := 3) (d := 46) rfl
      have gk4 : xs 4 = _ := goods_get hg (i := 4) (j := 4) (d := 47) rfl
      have gk5 : xs 5 = _ := goods_get hg (i := 5) (j := 5) (d := 48) rfl
      have gk6 : xs 6 = _ := goods_get hg (i := 6) (j := 6) (d := 49) rfl
      have gk7 : xs 7 = _ := goods_get hg (i := 7) (j := 7) (d := 50) rfl
      have gk8 : xs 8 = _ := goods_get hg (i := 8) (j := 8) (d := 51) rfl
      have gk9 : xs 9 = _ := goods_get hg (i := 9) (j := 9) (d := 52) rfl
      have gk10 : xs 10 = _ := goods_get hg (i := 10) (j := 10) (d := 53) rfl
      have gk11 : xs 11 = _ := goods_get hg (i := 11) (j := 11) (d := 54) rfl
      have gk12 : xs 12 = _ := goods_get hg (i := 12) (j := 12) (d := 55) rfl
      have gk13 : xs 13 = _ := goods_get hg (i := 13) (j := 13) (d := 56) rfl
      have gk14 : xs 14 = _ := goods_get hg (i := 14) (j := 14) (d := 57) rfl
      have gk15 : ∃ A' c', (xs 15) = .agg #[.slice A' n c', .int .i64 k] ∧ BytesV wx A' n c' d := goods_get hg (i := 15) (j := 15) (d := 58) rfl
      have gk16 : xs 16 = _ := goods_get hg (i := 16) (j := 16) (d := 59) rfl
      have gk17 : xs 17 = _ := goods_get hg (i := 17) (j := 17) (d := 60) rfl
      have gk18 : xs 18 = _ := goods_get hg (i := 18) (j := 18) (d := 61) rfl
      have gk19 : xs 19 = _ := goods_get hg (i := 19) (j := 19) (d := 6) rfl
      clear hg
      simp only [putAll, gk0, gk1, gk2, gk3, gk4, gk5, gk6, gk7, gk8, gk9, gk10, gk11, gk12, gk13, gk14, gk16, gk17, gk18, gk19]
      clear gk0 gk1 gk2 gk3 gk4 gk5 gk6 gk7 gk8 gk9 gk10 gk11 gk12 gk13 gk14 gk16 gk17 gk18 gk19
      generalize xs 15 = vx15 at gk15 ⊢
      clear xs
      simp only [Act.put, List.setIfInBounds_toArray, List.set_cons_zero, List.set_cons_succ]
      go_wp2
      go_ret
      exact ⟨rfl, hEy _ ‹_›⟩
set_option maxRecDepth 100000 in
theorem StreamParts_lifted (os : Os) (started : os.Started) (H : Type) (enc : TypeId × Value → H) :
    ReturnsInHanded {} Try.checked os 7 .any (Rows.streamPartsSpec.pre6 enc Try.prog Try.f7 Rows.streamPartsRow.domain false) (Rows.streamPartsSpec.post enc Try.prog Try.f7 false true false false) := by
  refine law_row os started H enc Rows.streamPartsSpec rfl (fun ds h => by
    match ds, h with
    | [_, _, _], _ => rfl) (by kernel_rfl) Try.func7 rfl
    (by rw [Try.params7]; intro t ht; simp at ht; rcases ht with rfl | rfl <;> exact ⟨by kernel_rfl, of_decide_eq_true (by kernel_rfl)⟩)
    (ChangeSpec.witness6 (enc := enc) (C := Try.checked) false ⟨#[], #[.agg #[.slice none 0 0, .int .i64 0], .slice none 0 0, .slice none 0 0], []⟩ 8 (by kernel_rfl) (by kernel_rfl) (by kernel_rfl) (by kernel_rfl)) ?_
  intro W base args ds ps hval hA hlt
  rw [Try.params7] at hA hval
  obtain ⟨v0, v1, v2, d0, d1, d2, p0, p1, p2, rfl, rfl, rfl, h0, h1, h2⟩ := trodAll_three hA
  obtain ⟨A, n, c, k, d, rfl, hV, _⟩ := open_stream (hval 0 _ v0 rfl rfl) h0
  obtain ⟨B, m, c2, a, rfl, hV1⟩ := open_bytes1 (hval 1 _ v1 rfl rfl) h1
  obtain ⟨C, l, c3, b, rfl, hV2⟩ := open_bytes1 (hval 2 _ v2 rfl rfl) h2
  by_cases h : 300 < n ∨ 300 < m ∨ 300 < l ∨ rightB k n = false
  · exact parts_up A B C n c m c2 l c3 k W h
  · simp only [not_or, Bool.not_eq_false, Nat.not_lt] at h
    exact parts_walk A B C n c m c2 l c3 k d a b W hV hV1 hV2 h.1 h.2.1 h.2.2.1 h.2.2.2
theorem StreamParts_holds : Rows.StreamPartsSaid :=
  OpenClaim.holds_of_wide 7 Try.f7 rfl rfl rfl rfl rfl rfl rfl ⟨rfl, rfl, rfl, rfl, rfl⟩ rfl rfl rfl rfl rfl (by kernel_rfl) Try.func7 (by kernel_rfl)
    (of_decide_eq_true (by kernel_rfl)) (by unfold Func.isWrapper; rw [if_neg (of_decide_eq_false (by kernel_rfl))]; exact ⟨rfl, rfl⟩)
    (fun os started H enc _ => StreamParts_lifted os started H enc)
#print axioms StreamParts_holds
end Go.Proofs.Ythncdpopacdekaa
