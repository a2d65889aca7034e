/- Proved: the law StreamTells (streams behind what is done with them are as the document says) returns true at every input and turns none of its arguments. No condition. -/
import Derived.Test.YthncdpopacdekaaShown6
import Derived.Test.YthncdpopacdekaaLift
import Derived.Test.YthncdpopacdekaaStreamOpen
import Derived.Test.YthncdpopacdekaaStreamRef
namespace Go.Proofs.Ythncdpopacdekaa
open Go.ChangeShapes Go.WideShapes Go.ChangeAt Go.RowKit

theorem tells_up (A B : Option Addr) (n c m c2 : Nat) (k more : Int) (w : World) (h : 500 < n ∨ 500 < m ∨ rightB k n = false) :
    Calls Try.prog 3 #[.agg #[.slice A n c, .int .i64 k], .slice B m c2, .int .i64 more] w fun e w' => e = .returned (.bool true) ∧ Ext w w' := by
  have hE : Ext w (w.alloc (.cells #[.slice A n c, .int .i64 k] 24)) := (Below.refl _ w).alloc (Nat.le_refl _) _
  by_cases hn : 500 < n
  · go_enter Try.func3, Try.ntmps3
    go_wp2_with (go_at_call 13; refine (shown6_any _).mono ?_; rintro e w1 ⟨rfl, hx1⟩; have c0 := hx1.cell (p := ⟨w.heap.size, 0, none⟩) (v := .slice A n c) (by simp [go_sem]); replace hE := hE.trans hx1; clear hx1)
    go_ret
    exact ⟨rfl, hE⟩
  · by_cases hm : 500 < m
    · go_enter Try.func3, Try.ntmps3
      go_wp2_with (go_at_call 13; refine (shown6_any _).mono ?_; rintro e w1 ⟨rfl, hx1⟩; have c0 := hx1.cell (p := ⟨w.heap.size, 0, none⟩) (v := .slice A n c) (by simp [go_sem]); replace hE := hE.trans hx1; clear hx1)
      go_ret
      exact ⟨rfl, hE⟩
    · have hr : rightB k n = false := (h.resolve_left hn).resolve_left hm
      go_enter Try.func3, Try.ntmps3
      go_wp2_with (first
        | (go_at_call 13; refine (shown6_any _).mono ?_; rintro e w1 ⟨rfl, hx1⟩; have c0 := hx1.cell (p := ⟨w.heap.size, 0, none⟩) (v := .slice A n c) (by simp [go_sem]); have c1 := hx1.cell (p := ⟨w.heap.size, 1, none⟩) (v := .int .i64 k) (by simp [go_sem]); replace hE := hE.trans hx1; clear hx1)
        | (go_at_call 14; refine (rright_any _ _ _ _ _).mono ?_; rintro e w2 ⟨rfl, hx2⟩; replace c0 := hx2.cell c0; replace c1 := hx2.cell c1; replace hE := hE.trans hx2; clear hx2)
        | (go_at_call 15; refine (right_any _ _ _ _ _).mono ?_; rintro e w3 ⟨rfl, hx3⟩; replace c0 := hx3.cell c0; replace c1 := hx3.cell c1; replace hE := hE.trans hx3; clear hx3))
      go_ret
      exact ⟨rfl, hE⟩
set_option maxHeartbeats 4000000 in
theorem tells_walk (A B : Option Addr) (n c m c2 : Nat) (k more : Int) (d b : List UInt8) (w : World) (hA : BytesV w A n c d) (hB : BytesV w B m c2 b) (hn : n ≤ 500) (hm : m ≤ 500) (hr : rightB k n = true) :
    Calls Try.prog 3 #[.agg #[.slice A n c, .int .i64 k], .slice B m c2, .int .i64 more] w fun e w' => e = .returned (.bool true) ∧ Ext w w' := by
  have hE : Ext w (w.alloc (.cells #[.slice A n c, .int .i64 k] 24)) := (Below.refl _ w).alloc (Nat.le_refl _) _
  obtain ⟨k0, k1⟩ := rightB_spec hr
  have hN := cutN_le (more := more) k0 k1
  have hnc := hA.le
  go_enter Try.func3, Try.ntmps3
  go_wp2_with (first
    | (go_at_call 13; refine (shown6_any _).mono ?_; rintro e w1 ⟨rfl, hx1⟩; have c0 := hx1.cell (p := ⟨w.heap.size, 0, none⟩) (v := .slice A n c) (by simp [go_sem]); have c1 := hx1.cell (p := ⟨w.heap.size, 1, none⟩) (v := .int .i64 k) (by simp [go_sem]); replace hE := hE.trans hx1; clear hx1)
    | (go_at_call 14; refine (rright_any _ _ _ _ _).mono ?_; rintro e w2 ⟨rfl, hx2⟩; replace c0 := hx2.cell c0; replace c1 := hx2.cell c1; replace hE := hE.trans hx2; clear hx2)
    | (go_at_call 15; refine (right_any _ _ _ _ _).mono ?_; rintro e w3 ⟨rfl, hx3⟩; replace c0 := hx3.cell c0; replace c1 := hx3.cell c1; replace hE := hE.trans hx3; clear hx3))
  have hboxx : ∀ wx, Ext w3.drew wx → wx.cell? ⟨w.heap.size, 0, none⟩ = some (.slice A n c) ∧ wx.cell? ⟨w.heap.size, 1, none⟩ = some (.int .i64 k) := fun wx hx => ⟨hx.drawn.cell c0, hx.drawn.cell c1⟩
  have hAx : ∀ wx, Ext w3.drew wx → BytesV wx A n c d := fun wx hx => hA.ext (hE.trans hx.drawn)
  have hBx : ∀ wx, Ext w3.drew wx → BytesV wx B m c2 b := fun wx hx => hB.ext (hE.trans hx.drawn)
  have hEx : ∀ wx, Ext w3.drew wx → Ext w wx := fun wx hx => hE.trans hx.drawn
  clear c0 c1 hE hr
  refine' wp_region_sure_all ⟨((some 29, [], none) :: (some 30, [0], none) :: (some 31, [1], some (1, true)) :: (some 32, [1], some (1, true)) :: (some 33, [2, 3, 1, 1], some (1, true)) :: (some 34, [1], some (1, true)) :: (some 35, [1], some (1, true)) :: (some 36, [5, 6, 4, 1], some (1, true)) :: (some 37, [4, 7, 7, 1], some (1, true)) :: (some 38, [1, 8], none) :: (some 39, [9, 8], none) :: (some 40, [10], some (10, true)) :: (some 41, [11, 10, 10], some (10, true)) :: (some 42, [10], some (10, true)) :: (some 43, [13, 12, 10], some (10, true)) :: (some 44, [12, 14, 14, 10], some (10, true)) :: (some 45, [10, 15], none) :: (some 46, [16, 15], none) :: (some 47, [17], some (17, true)) :: (some 48, [17], some (17, true)) :: (some 49, [18, 19, 17, 17], some (17, true)) :: (some 50, [17], some (17, true)) :: (some 51, [17], some (17, true)) :: (some 52, [21, 22, 20, 17], some (17, true)) :: (some 53, [20, 23, 23, 17], some (17, true)) :: (some 54, [17, 24], none) :: (some 6, [25, 24, 0, 1, 2, 3, 4, 5, 6, 7, 8, 9, 10, 11, 12, 13, 14, 15, 16, 17, 18, 19, 20, 21, 22, 23, 24, 25], none) :: []), (0 :: 1 :: 3 :: 3 :: 15 :: 3 :: 3 :: 127 :: 255 :: 511 :: 1023 :: 2047 :: 4095 :: 2047 :: 16383 :: 32767 :: 65535 :: 131071 :: 262143 :: 262143 :: 1048575 :: 262143 :: 262143 :: 8388607 :: 16777215 :: 33554431 :: 67108863 :: []), (true :: true :: true :: true :: false :: true :: true :: false :: true :: true :: true :: true :: true :: true :: true :: true :: true :: true :: true :: true :: true :: true :: true :: false :: true :: true :: true :: []), []⟩ 27 55 ((0, 29) :: (1, 30) :: (2, 31) :: (3, 32) :: (4, 33) :: (5, 34) :: (6, 35) :: (7, 36) :: (8, 37) :: (9, 38) :: (10, 39) :: (11, 40) :: (12, 41) :: (13, 42) :: (14, 43) :: (15, 44) :: (16, 45) :: (17, 46) :: (18, 47) :: (19, 48) :: (20, 49) :: (21, 50) :: (22, 51) :: (23, 52) :: (24, 53) :: (25, 54) :: (26, 6) :: []) ((0, 29) :: (1, 30) :: (2, 31) :: (3, 32) :: (4, 33) :: (5, 34) :: (6, 35) :: (7, 36) :: (8, 37) :: (9, 38) :: (10, 39) :: (11, 40) :: (12, 41) :: (13, 42) :: (14, 43) :: (15, 44) :: (16, 45) :: (17, 46) :: (18, 47) :: (19, 48) :: (20, 49) :: (21, 50) :: (22, 51) :: (23, 52) :: (24, 53) :: (25, 54) :: (26, 6) :: []) (.det _ :: .det _ :: .det _ :: .det _ :: Good.of (fun v w => ∃ A' c', v = .agg #[.slice A' (n + m) c', .int .i64 k] ∧ BytesV w A' (n + m) c' (d ++ b)) (fun v w w' h hx => let ⟨A', c', e, hb⟩ := h; ⟨A', c', e, hb.ext hx⟩) :: .det _ :: .det _ :: Good.of (fun v w => ∃ A' c', v = .agg #[.slice A' (n + m) c', .int .i64 k] ∧ BytesV w A' (n + m) c' (d ++ b)) (fun v w w' h hx => let ⟨A', c', e, hb⟩ := h; ⟨A', c', e, hb.ext hx⟩) :: .det _ :: .det _ :: .det _ :: .det _ :: .det _ :: .det _ :: .det _ :: .det _ :: .det _ :: .det _ :: .det _ :: .det _ :: .det _ :: .det _ :: .det _ :: Good.of (fun v w => ∃ A' c', v = .agg #[.slice A' (cutN n k more) c', .int .i64 (cutN n k more)] ∧ BytesV w A' (cutN n k more) c' (d.take (cutN n k more))) (fun v w w' h hx => let ⟨A', c', e, hb⟩ := h; ⟨A', c', e, hb.ext hx⟩) :: .det _ :: .det _ :: .det _ :: []) (by kernel_rfl) (by kernel_rfl) (by kernel_rfl) rfl (by kernel_rfl) (by kernel_rfl) rfl (by kernel_rfl) ?hone ?hend
  case hone =>
    intro CS frS VS hCS ha hV
    have qs1 := slot_val (t := 1) ha rfl
    simp only [List.getElem_toArray, List.getElem_cons_succ, List.getElem_cons_zero] at qs1
    have qs2 := slot_val (t := 2) ha rfl
    simp only [List.getElem_toArray, List.getElem_cons_succ, List.getElem_cons_zero] at qs2
    have qs3 := slot_val (t := 3) ha rfl
    simp only [List.getElem_toArray, List.getElem_cons_succ, List.getElem_cons_zero] at qs3
    have qs7 := slot_val (t := 7) ha rfl
    simp only [List.getElem_toArray, List.getElem_cons_succ, List.getElem_cons_zero] at qs7
    have HCS := Lib.hid hCS
    have HVS := Lib.hid hV
    clear ha hCS hV
    -- 0: slot 29 := Op.move t7
    refine sure_det (js := []) (ts := [7]) (gd := none) (place_at HVS.out (k := 0) rfl) (by rw [HCS.out]; kernel_rfl) ?_ ?_
    · intro wx hx ρ hρ hs hf
      have hρc := hρ.const
      have hρf := hρ.func
      obtain ⟨fx7, -⟩ := hf
      rw [qs7] at fx7
      clear hs
      clear HCS HVS qs1 qs2 qs3 qs7
      refine run_plain ?_
      refine op_move rfl fx7 ?_
      exact detK.mk
    -- 1: slot 30 := Op.move t29
    refine sure_det (js := [(0, 29)]) (ts := []) (gd := none) (place_at HVS.out (k := 1) rfl) (by rw [HCS.out]; kernel_rfl) ?_ ?_
    · intro wx hx ρ hρ hs hf
      have hρc := hρ.const
      have hρf := hρ.func
      obtain ⟨sn0, -⟩ := hs
      rw [place_at HVS.out (k := 0) rfl] at sn0
      replace sn0 : ρ (.tmp 29) = _ := sn0
      clear hf
      clear HCS HVS qs1 qs2 qs3 qs7
      refine run_plain ?_
      refine op_move rfl sn0 ?_
      exact detK.mk
    -- 2: slot 31 := Op.load 24 t3
    refine sure_det (js := [(1, 30)]) (ts := [3]) (gd := (some (30, true))) (place_at HVS.out (k := 2) rfl) (by rw [HCS.out]; kernel_rfl) ?_ ?_
    · intro wx hx ρ hρ hs hf
      have hρc := hρ.const
      have hρf := hρ.func
      obtain ⟨sn1, -⟩ := hs
      obtain ⟨fx3, -⟩ := hf
      rw [qs3] at fx3
      rw [place_at HVS.out (k := 1) rfl] at sn1
      replace sn1 : ρ (.tmp 30) = _ := sn1
      clear HCS HVS qs1 qs2 qs3 qs7
      first
        | (refine run_passed sn1 ?_
           exact detK.mk)
        | (refine run_guarded sn1 ?_
           obtain ⟨c0, c1⟩ := hboxx wx hx
           unfold runs
           go_simp
           exact detK.mk)
    -- 3: slot 32 := Op.move t1
    refine sure_det (js := [(1, 30)]) (ts := [1]) (gd := (some (30, true))) (place_at HVS.out (k := 3) rfl) (by rw [HCS.out]; kernel_rfl) ?_ ?_
    · intro wx hx ρ hρ hs hf
      have hρc := hρ.const
      have hρf := hρ.func
      obtain ⟨sn1, -⟩ := hs
      obtain ⟨fx1, -⟩ := hf
      rw [qs1] at fx1
      rw [place_at HVS.out (k := 1) rfl] at sn1
      replace sn1 : ρ (.tmp 30) = _ := sn1
      clear HCS HVS qs1 qs2 qs3 qs7
      first
        | (refine run_passed sn1 ?_
           exact detK.mk)
        | (refine run_guarded sn1 ?_
           refine op_move rfl fx1 ?_
           exact detK.mk)
    -- 4: slot 33 := Op.call { call ( 17), args := #[t31, t32], argTypes := #[24, 22] }
    refine sure_op (js := [(2, 31), (3, 32), (1, 30)]) (ts := []) (gd := (some (30, true))) (place_at HVS.out (k := 4) rfl) (by rw [HCS.out]; kernel_rfl) ?_ ?_
    · intro wx hx ρ hρ hs hf
      have hρc := hρ.const
      have hρf := hρ.func
      obtain ⟨sn2, sn3, sn1, -⟩ := hs
      rw [place_at HVS.out (k := 2) rfl] at sn2
      replace sn2 : ρ (.tmp 31) = _ := sn2
      rw [place_at HVS.out (k := 3) rfl] at sn3
      replace sn3 : ρ (.tmp 32) = _ := sn3
      rw [place_at HVS.out (k := 1) rfl] at sn1
      replace sn1 : ρ (.tmp 30) = _ := sn1
      clear hf
      clear HCS HVS qs1 qs2 qs3 qs7
      refine run_guarded sn1 ?_
      refine op_call rfl hρ Try.call17 (map_two sn2 sn3) ?_
      refine Calls.mono (append_any A B n c m c2 k d b _ (hAx wx hx) (hBx wx hx) (by omega)) ?_
      rintro e w' ⟨A', c', rfl, hV, hx5⟩
      exact ⟨_, rfl, hx5, A', c', rfl, hV⟩
    -- 5: slot 34 := Op.load 24 t3
    refine sure_det (js := [(1, 30)]) (ts := [3]) (gd := (some (30, true))) (place_at HVS.out (k := 5) rfl) (by rw [HCS.out]; kernel_rfl) ?_ ?_
    · intro wx hx ρ hρ hs hf
      have hρc := hρ.const
      have hρf := hρ.func
      obtain ⟨sn1, -⟩ := hs
      obtain ⟨fx3, -⟩ := hf
      rw [qs3] at fx3
      rw [place_at HVS.out (k := 1) rfl] at sn1
      replace sn1 : ρ (.tmp 30) = _ := sn1
      clear HCS HVS qs1 qs2 qs3 qs7
      first
        | (refine run_passed sn1 ?_
           exact detK.mk)
        | (refine run_guarded sn1 ?_
           obtain ⟨c0, c1⟩ := hboxx wx hx
           unfold runs
           go_simp
           exact detK.mk)
    -- 6: slot 35 := Op.move t1
    refine sure_det (js := [(1, 30)]) (ts := [1]) (gd := (some (30, true))) (place_at HVS.out (k := 6) rfl) (by rw [HCS.out]; kernel_rfl) ?_ ?_
    · intro wx hx ρ hρ hs hf
      have hρc := hρ.const
      have hρf := hρ.func
      obtain ⟨sn1, -⟩ := hs
      obtain ⟨fx1, -⟩ := hf
      rw [qs1] at fx1
      rw [place_at HVS.out (k := 1) rfl] at sn1
      replace sn1 : ρ (.tmp 30) = _ := sn1
      clear HCS HVS qs1 qs2 qs3 qs7
      first
        | (refine run_passed sn1 ?_
           exact detK.mk)
        | (refine run_guarded sn1 ?_
           refine op_move rfl fx1 ?_
           exact detK.mk)
    -- 7: slot 36 := Op.call { call ( 18), args := #[t34, t35], argTypes := #[24, 22] }
    refine sure_op (js := [(5, 34), (6, 35), (1, 30)]) (ts := []) (gd := (some (30, true))) (place_at HVS.out (k := 7) rfl) (by rw [HCS.out]; kernel_rfl) ?_ ?_
    · intro wx hx ρ hρ hs hf
      have hρc := hρ.const
      have hρf := hρ.func
      obtain ⟨sn5, sn6, sn1, -⟩ := hs
      rw [place_at HVS.out (k := 5) rfl] at sn5
      replace sn5 : ρ (.tmp 34) = _ := sn5
      rw [place_at HVS.out (k := 6) rfl] at sn6
      replace sn6 : ρ (.tmp 35) = _ := sn6
      rw [place_at HVS.out (k := 1) rfl] at sn1
      replace sn1 : ρ (.tmp 30) = _ := sn1
      clear hf
      clear HCS HVS qs1 qs2 qs3 qs7
      refine run_guarded sn1 ?_
      refine op_call rfl hρ Try.call18 (map_two sn5 sn6) ?_
      refine Calls.mono (rappend_any A B n c m c2 k d b _ (hAx wx hx) (hBx wx hx) (by omega)) ?_
      rintro e w' ⟨A', c', rfl, hV, hx5⟩
      exact ⟨_, rfl, hx5, A', c', rfl, hV⟩
    -- 8: slot 37 := Op.call { call ( 16), args := #[t33, t36], argTypes := #[24, 24] }
    refine sure_det (js := [(4, 33), (7, 36), (1, 30)]) (ts := []) (gd := (some (30, true))) (place_at HVS.out (k := 8) rfl) (by rw [HCS.out]; kernel_rfl) ?_ ?_
    · intro wx hx ρ hρ hs hf
      have hρc := hρ.const
      have hρf := hρ.func
      obtain ⟨sn4, sn7, sn1, -⟩ := hs
      rw [place_at HVS.out (k := 4) rfl] at sn4
      replace sn4 : ∃ A' c', (ρ (.tmp 33)) = .agg #[.slice A' (n + m) c', .int .i64 k] ∧ BytesV wx A' (n + m) c' (d ++ b) := sn4
      rw [place_at HVS.out (k := 7) rfl] at sn7
      replace sn7 : ∃ A' c', (ρ (.tmp 36)) = .agg #[.slice A' (n + m) c', .int .i64 k] ∧ BytesV wx A' (n + m) c' (d ++ b) := sn7
      rw [place_at HVS.out (k := 1) rfl] at sn1
      replace sn1 : ρ (.tmp 30) = _ := sn1
      clear hf
      clear HCS HVS qs1 qs2 qs3 qs7
      first
        | (refine run_passed sn1 ?_
           exact detK.mk)
        | (refine run_guarded sn1 ?_
           obtain ⟨A4, c4, e4, hV4⟩ := sn4
           obtain ⟨A7, c7, e7, hV7⟩ := sn7
           refine op_call rfl hρ Try.call16 (map_two e4 e7) ?_
           refine Calls.mono (same_yes A4 A7 (n + m) c4 c7 k _ _ hV4 hV7) ?_
           rintro e w' ⟨rfl, hx5⟩
           refine ⟨_, rfl, ?_⟩
           exact detK.ext hx5)
    -- 9: slot 38 := Op.pick t30 t37 ((Value.bool false))
    refine sure_det (js := [(1, 30), (8, 37)]) (ts := []) (gd := none) (place_at HVS.out (k := 9) rfl) (by rw [HCS.out]; kernel_rfl) ?_ ?_
    · intro wx hx ρ hρ hs hf
      have hρc := hρ.const
      have hρf := hρ.func
      obtain ⟨sn1, sn8, -⟩ := hs
      rw [place_at HVS.out (k := 1) rfl] at sn1
      replace sn1 : ρ (.tmp 30) = _ := sn1
      rw [place_at HVS.out (k := 8) rfl] at sn8
      replace sn8 : ρ (.tmp 37) = _ := sn8
      clear hf
      clear HCS HVS qs1 qs2 qs3 qs7
      refine run_plain ?_
      first | refine op_pick_t rfl sn1 sn8 ?_ | refine op_pick_f rfl sn1 (hρ.const _) ?_
      exact detK.mk
    -- 10: slot 39 := Op.move t38
    refine sure_det (js := [(9, 38)]) (ts := []) (gd := none) (place_at HVS.out (k := 10) rfl) (by rw [HCS.out]; kernel_rfl) ?_ ?_
    · intro wx hx ρ hρ hs hf
      have hρc := hρ.const
      have hρf := hρ.func
      obtain ⟨sn9, -⟩ := hs
      rw [place_at HVS.out (k := 9) rfl] at sn9
      replace sn9 : ρ (.tmp 38) = _ := sn9
      clear hf
      clear HCS HVS qs1 qs2 qs3 qs7
      refine run_plain ?_
      refine op_move rfl sn9 ?_
      exact detK.mk
    -- 11: slot 40 := Op.load 24 t3
    refine sure_det (js := [(10, 39)]) (ts := [3]) (gd := (some (39, true))) (place_at HVS.out (k := 11) rfl) (by rw [HCS.out]; kernel_rfl) ?_ ?_
    · intro wx hx ρ hρ hs hf
      have hρc := hρ.const
      have hρf := hρ.func
      obtain ⟨sn10, -⟩ := hs
      obtain ⟨fx3, -⟩ := hf
      rw [qs3] at fx3
      rw [place_at HVS.out (k := 10) rfl] at sn10
      replace sn10 : ρ (.tmp 39) = _ := sn10
      clear HCS HVS qs1 qs2 qs3 qs7
      first
        | (refine run_passed sn10 ?_
           exact detK.mk)
        | (refine run_guarded sn10 ?_
           obtain ⟨c0, c1⟩ := hboxx wx hx
           unfold runs
           go_simp
           exact detK.mk)
    -- 12: slot 41 := Op.call { call ( 19), args := #[t40], argTypes := #[24] }
    refine sure_det (js := [(11, 40), (10, 39)]) (ts := []) (gd := (some (39, true))) (place_at HVS.out (k := 12) rfl) (by rw [HCS.out]; kernel_rfl) ?_ ?_
    · intro wx hx ρ hρ hs hf
      have hρc := hρ.const
      have hρf := hρ.func
      obtain ⟨sn11, sn10, -⟩ := hs
      rw [place_at HVS.out (k := 11) rfl] at sn11
      replace sn11 : ρ (.tmp 40) = _ := sn11
      rw [place_at HVS.out (k := 10) rfl] at sn10
      replace sn10 : ρ (.tmp 39) = _ := sn10
      clear hf
      clear HCS HVS qs1 qs2 qs3 qs7
      first
        | (refine run_passed sn10 ?_
           exact detK.mk)
        | (refine run_guarded sn10 ?_
           refine op_call rfl hρ Try.call19 (map_one sn11) ?_
           first | ((with_reducible refine Calls.mono (sync_any A n c k (by omega) _) ?_); rintro e w' ⟨rfl, hx5⟩; refine ⟨_, rfl, ?_⟩; exact detK.ext hx5) | ((with_reducible refine Calls.mono (rsync_any A n c k (by omega) _) ?_); rintro e w' ⟨rfl, hx5⟩; refine ⟨_, rfl, ?_⟩; exact detK.ext hx5) | ((with_reducible refine Calls.mono (same_yes A A n c c n d _ (hAx wx hx) (hAx wx hx)) ?_); rintro e w' ⟨rfl, hx5⟩; refine ⟨_, rfl, ?_⟩; exact detK.ext hx5) | ((with_reducible refine Calls.mono (cut_any A n c k more (by omega) (by omega) (by omega) (by omega) _) ?_); rintro e w' ⟨rfl, hx5⟩; refine ⟨_, rfl, ?_⟩; exact detK.ext hx5))
    -- 13: slot 42 := Op.load 24 t3
    refine sure_det (js := [(10, 39)]) (ts := [3]) (gd := (some (39, true))) (place_at HVS.out (k := 13) rfl) (by rw [HCS.out]; kernel_rfl) ?_ ?_
    · intro wx hx ρ hρ hs hf
      have hρc := hρ.const
      have hρf := hρ.func
      obtain ⟨sn10, -⟩ := hs
      obtain ⟨fx3, -⟩ := hf
      rw [qs3] at fx3
      rw [place_at HVS.out (k := 10) rfl] at sn10
      replace sn10 : ρ (.tmp 39) = _ := sn10
      clear HCS HVS qs1 qs2 qs3 qs7
      first
        | (refine run_passed sn10 ?_
           exact detK.mk)
        | (refine run_guarded sn10 ?_
           obtain ⟨c0, c1⟩ := hboxx wx hx
           unfold runs
           go_simp
           exact detK.mk)
    -- 14: slot 43 := Op.call { call ( 20), args := #[t42], argTypes := #[24] }
    refine sure_det (js := [(13, 42), (10, 39)]) (ts := []) (gd := (some (39, true))) (place_at HVS.out (k := 14) rfl) (by rw [HCS.out]; kernel_rfl) ?_ ?_
    · intro wx hx ρ hρ hs hf
      have hρc := hρ.const
      have hρf := hρ.func
      obtain ⟨sn13, sn10, -⟩ := hs
      rw [place_at HVS.out (k := 13) rfl] at sn13
      replace sn13 : ρ (.tmp 42) = _ := sn13
      rw [place_at HVS.out (k := 10) rfl] at sn10
      replace sn10 : ρ (.tmp 39) = _ := sn10
      clear hf
      clear HCS HVS qs1 qs2 qs3 qs7
      first
        | (refine run_passed sn10 ?_
           exact detK.mk)
        | (refine run_guarded sn10 ?_
           refine op_call rfl hρ Try.call20 (map_one sn13) ?_
           first | ((with_reducible refine Calls.mono (sync_any A n c k (by omega) _) ?_); rintro e w' ⟨rfl, hx5⟩; refine ⟨_, rfl, ?_⟩; exact detK.ext hx5) | ((with_reducible refine Calls.mono (rsync_any A n c k (by omega) _) ?_); rintro e w' ⟨rfl, hx5⟩; refine ⟨_, rfl, ?_⟩; exact detK.ext hx5) | ((with_reducible refine Calls.mono (same_yes A A n c c n d _ (hAx wx hx) (hAx wx hx)) ?_); rintro e w' ⟨rfl, hx5⟩; refine ⟨_, rfl, ?_⟩; exact detK.ext hx5) | ((with_reducible refine Calls.mono (cut_any A n c k more (by omega) (by omega) (by omega) (by omega) _) ?_); rintro e w' ⟨rfl, hx5⟩; refine ⟨_, rfl, ?_⟩; exact detK.ext hx5))
    -- 15: slot 44 := Op.call { call ( 16), args := #[t41, t43], argTypes := #[24, 24] }
    refine sure_det (js := [(12, 41), (14, 43), (10, 39)]) (ts := []) (gd := (some (39, true))) (place_at HVS.out (k := 15) rfl) (by rw [HCS.out]; kernel_rfl) ?_ ?_
    · intro wx hx ρ hρ hs hf
      have hρc := hρ.const
      have hρf := hρ.func
      obtain ⟨sn12, sn14, sn10, -⟩ := hs
      rw [place_at HVS.out (k := 12) rfl] at sn12
      replace sn12 : ρ (.tmp 41) = _ := sn12
      rw [place_at HVS.out (k := 14) rfl] at sn14
      replace sn14 : ρ (.tmp 43) = _ := sn14
      rw [place_at HVS.out (k := 10) rfl] at sn10
      replace sn10 : ρ (.tmp 39) = _ := sn10
      clear hf
      clear HCS HVS qs1 qs2 qs3 qs7
      first
        | (refine run_passed sn10 ?_
           exact detK.mk)
        | (refine run_guarded sn10 ?_
           refine op_call rfl hρ Try.call16 (map_two sn12 sn14) ?_
           first | ((with_reducible refine Calls.mono (sync_any A n c k (by omega) _) ?_); rintro e w' ⟨rfl, hx5⟩; refine ⟨_, rfl, ?_⟩; exact detK.ext hx5) | ((with_reducible refine Calls.mono (rsync_any A n c k (by omega) _) ?_); rintro e w' ⟨rfl, hx5⟩; refine ⟨_, rfl, ?_⟩; exact detK.ext hx5) | ((with_reducible refine Calls.mono (same_yes A A n c c n d _ (hAx wx hx) (hAx wx hx)) ?_); rintro e w' ⟨rfl, hx5⟩; refine ⟨_, rfl, ?_⟩; exact detK.ext hx5) | ((with_reducible refine Calls.mono (cut_any A n c k more (by omega) (by omega) (by omega) (by omega) _) ?_); rintro e w' ⟨rfl, hx5⟩; refine ⟨_, rfl, ?_⟩; exact detK.ext hx5))
    -- 16: slot 45 := Op.pick t39 t44 ((Value.bool false))
    refine sure_det (js := [(10, 39), (15, 44)]) (ts := []) (gd := none) (place_at HVS.out (k := 16) rfl) (by rw [HCS.out]; kernel_rfl) ?_ ?_
    · intro wx hx ρ hρ hs hf
      have hρc := hρ.const
      have hρf := hρ.func
      obtain ⟨sn10, sn15, -⟩ := hs
      rw [place_at HVS.out (k := 10) rfl] at sn10
      replace sn10 : ρ (.tmp 39) = _ := sn10
      rw [place_at HVS.out (k := 15) rfl] at sn15
      replace sn15 : ρ (.tmp 44) = _ := sn15
      clear hf
      clear HCS HVS qs1 qs2 qs3 qs7
      refine run_plain ?_
      first | refine op_pick_t rfl sn10 sn15 ?_ | refine op_pick_f rfl sn10 (hρ.const _) ?_
      exact detK.mk
    -- 17: slot 46 := Op.move t45
    refine sure_det (js := [(16, 45)]) (ts := []) (gd := none) (place_at HVS.out (k := 17) rfl) (by rw [HCS.out]; kernel_rfl) ?_ ?_
    · intro wx hx ρ hρ hs hf
      have hρc := hρ.const
      have hρf := hρ.func
      obtain ⟨sn16, -⟩ := hs
      rw [place_at HVS.out (k := 16) rfl] at sn16
      replace sn16 : ρ (.tmp 45) = _ := sn16
      clear hf
      clear HCS HVS qs1 qs2 qs3 qs7
      refine run_plain ?_
      refine op_move rfl sn16 ?_
      exact detK.mk
    -- 18: slot 47 := Op.load 24 t3
    refine sure_det (js := [(17, 46)]) (ts := [3]) (gd := (some (46, true))) (place_at HVS.out (k := 18) rfl) (by rw [HCS.out]; kernel_rfl) ?_ ?_
    · intro wx hx ρ hρ hs hf
      have hρc := hρ.const
      have hρf := hρ.func
      obtain ⟨sn17, -⟩ := hs
      obtain ⟨fx3, -⟩ := hf
      rw [qs3] at fx3
      rw [place_at HVS.out (k := 17) rfl] at sn17
      replace sn17 : ρ (.tmp 46) = _ := sn17
      clear HCS HVS qs1 qs2 qs3 qs7
      first
        | (refine run_passed sn17 ?_
           exact detK.mk)
        | (refine run_guarded sn17 ?_
           obtain ⟨c0, c1⟩ := hboxx wx hx
           unfold runs
           go_simp
           exact detK.mk)
    -- 19: slot 48 := Op.move t2
    refine sure_det (js := [(17, 46)]) (ts := [2]) (gd := (some (46, true))) (place_at HVS.out (k := 19) rfl) (by rw [HCS.out]; kernel_rfl) ?_ ?_
    · intro wx hx ρ hρ hs hf
      have hρc := hρ.const
      have hρf := hρ.func
      obtain ⟨sn17, -⟩ := hs
      obtain ⟨fx2, -⟩ := hf
      rw [qs2] at fx2
      rw [place_at HVS.out (k := 17) rfl] at sn17
      replace sn17 : ρ (.tmp 46) = _ := sn17
      clear HCS HVS qs1 qs2 qs3 qs7
      first
        | (refine run_passed sn17 ?_
           exact detK.mk)
        | (refine run_guarded sn17 ?_
           refine op_move rfl fx2 ?_
           exact detK.mk)
    -- 20: slot 49 := Op.call { call ( 21), args := #[t47, t48], argTypes := #[24, 3] }
    refine sure_det (js := [(18, 47), (19, 48), (17, 46)]) (ts := []) (gd := (some (46, true))) (place_at HVS.out (k := 20) rfl) (by rw [HCS.out]; kernel_rfl) ?_ ?_
    · intro wx hx ρ hρ hs hf
      have hρc := hρ.const
      have hρf := hρ.func
      obtain ⟨sn18, sn19, sn17, -⟩ := hs
      rw [place_at HVS.out (k := 18) rfl] at sn18
      replace sn18 : ρ (.tmp 47) = _ := sn18
      rw [place_at HVS.out (k := 19) rfl] at sn19
      replace sn19 : ρ (.tmp 48) = _ := sn19
      rw [place_at HVS.out (k := 17) rfl] at sn17
      replace sn17 : ρ (.tmp 46) = _ := sn17
      clear hf
      clear HCS HVS qs1 qs2 qs3 qs7
      first
        | (refine run_passed sn17 ?_
           exact detK.mk)
        | (refine run_guarded sn17 ?_
           refine op_call rfl hρ Try.call21 (map_two sn18 sn19) ?_
           first | ((with_reducible refine Calls.mono (sync_any A n c k (by omega) _) ?_); rintro e w' ⟨rfl, hx5⟩; refine ⟨_, rfl, ?_⟩; exact detK.ext hx5) | ((with_reducible refine Calls.mono (rsync_any A n c k (by omega) _) ?_); rintro e w' ⟨rfl, hx5⟩; refine ⟨_, rfl, ?_⟩; exact detK.ext hx5) | ((with_reducible refine Calls.mono (same_yes A A n c c n d _ (hAx wx hx) (hAx wx hx)) ?_); rintro e w' ⟨rfl, hx5⟩; refine ⟨_, rfl, ?_⟩; exact detK.ext hx5) | ((with_reducible refine Calls.mono (cut_any A n c k more (by omega) (by omega) (by omega) (by omega) _) ?_); rintro e w' ⟨rfl, hx5⟩; refine ⟨_, rfl, ?_⟩; exact detK.ext hx5))
    -- 21: slot 50 := Op.load 24 t3
    refine sure_det (js := [(17, 46)]) (ts := [3]) (gd := (some (46, true))) (place_at HVS.out (k := 21) rfl) (by rw [HCS.out]; kernel_rfl) ?_ ?_
    · intro wx hx ρ hρ hs hf
      have hρc := hρ.const
      have hρf := hρ.func
      obtain ⟨sn17, -⟩ := hs
      obtain ⟨fx3, -⟩ := hf
      rw [qs3] at fx3
      rw [place_at HVS.out (k := 17) rfl] at sn17
      replace sn17 : ρ (.tmp 46) = _ := sn17
      clear HCS HVS qs1 qs2 qs3 qs7
      first
        | (refine run_passed sn17 ?_
           exact detK.mk)
        | (refine run_guarded sn17 ?_
           obtain ⟨c0, c1⟩ := hboxx wx hx
           unfold runs
           go_simp
           exact detK.mk)
    -- 22: slot 51 := Op.move t2
    refine sure_det (js := [(17, 46)]) (ts := [2]) (gd := (some (46, true))) (place_at HVS.out (k := 22) rfl) (by rw [HCS.out]; kernel_rfl) ?_ ?_
    · intro wx hx ρ hρ hs hf
      have hρc := hρ.const
      have hρf := hρ.func
      obtain ⟨sn17, -⟩ := hs
      obtain ⟨fx2, -⟩ := hf
      rw [qs2] at fx2
      rw [place_at HVS.out (k := 17) rfl] at sn17
      replace sn17 : ρ (.tmp 46) = _ := sn17
      clear HCS HVS qs1 qs2 qs3 qs7
      first
        | (refine run_passed sn17 ?_
           exact detK.mk)
        | (refine run_guarded sn17 ?_
           refine op_move rfl fx2 ?_
           exact detK.mk)
    -- 23: slot 52 := Op.call { call ( 22), args := #[t50, t51], argTypes := #[24, 3] }
    refine sure_op (js := [(21, 50), (22, 51), (17, 46)]) (ts := []) (gd := (some (46, true))) (place_at HVS.out (k := 23) rfl) (by rw [HCS.out]; kernel_rfl) ?_ ?_
    · intro wx hx ρ hρ hs hf
      have hρc := hρ.const
      have hρf := hρ.func
      obtain ⟨sn21, sn22, sn17, -⟩ := hs
      rw [place_at HVS.out (k := 21) rfl] at sn21
      replace sn21 : ρ (.tmp 50) = _ := sn21
      rw [place_at HVS.out (k := 22) rfl] at sn22
      replace sn22 : ρ (.tmp 51) = _ := sn22
      rw [place_at HVS.out (k := 17) rfl] at sn17
      replace sn17 : ρ (.tmp 46) = _ := sn17
      clear hf
      clear HCS HVS qs1 qs2 qs3 qs7
      refine run_guarded sn17 ?_
      refine op_call rfl hρ Try.call22 (map_two sn21 sn22) ?_
      refine Calls.mono (rcut_any A n c k more d _ (hAx wx hx) (by omega) k0 k1) ?_
      rintro e w' ⟨A', c', rfl, hV, hx5⟩
      exact ⟨_, rfl, hx5, A', c', rfl, hV⟩
    -- 24: slot 53 := Op.call { call ( 16), args := #[t49, t52], argTypes := #[24, 24] }
    refine sure_det (js := [(20, 49), (23, 52), (17, 46)]) (ts := []) (gd := (some (46, true))) (place_at HVS.out (k := 24) rfl) (by rw [HCS.out]; kernel_rfl) ?_ ?_
    · intro wx hx ρ hρ hs hf
      have hρc := hρ.const
      have hρf := hρ.func
      obtain ⟨sn20, sn23, sn17, -⟩ := hs
      rw [place_at HVS.out (k := 20) rfl] at sn20
      replace sn20 : ρ (.tmp 49) = _ := sn20
      rw [place_at HVS.out (k := 23) rfl] at sn23
      replace sn23 : ∃ A' c', (ρ (.tmp 52)) = .agg #[.slice A' (cutN n k more) c', .int .i64 (cutN n k more)] ∧ BytesV wx A' (cutN n k more) c' (d.take (cutN n k more)) := sn23
      rw [place_at HVS.out (k := 17) rfl] at sn17
      replace sn17 : ρ (.tmp 46) = _ := sn17
      clear hf
      clear HCS HVS qs1 qs2 qs3 qs7
      first
        | (refine run_passed sn17 ?_
           exact detK.mk)
        | (refine run_guarded sn17 ?_
           obtain ⟨A7, c7, e7, hV7⟩ := sn23
           refine op_call rfl hρ Try.call16 (map_two sn20 e7) ?_
           refine Calls.mono (same_yes A A7 _ _ c7 _ _ _ ((hAx wx hx).cut hN) hV7) ?_
           rintro e w' ⟨rfl, hx5⟩
           refine ⟨_, rfl, ?_⟩
           exact detK.ext hx5)
    -- 25: slot 54 := Op.pick t46 t53 ((Value.bool false))
    refine sure_det (js := [(17, 46), (24, 53)]) (ts := []) (gd := none) (place_at HVS.out (k := 25) rfl) (by rw [HCS.out]; kernel_rfl) ?_ ?_
    · intro wx hx ρ hρ hs hf
      have hρc := hρ.const
      have hρf := hρ.func
      obtain ⟨sn17, sn24, -⟩ := hs
      rw [place_at HVS.out (k := 17) rfl] at sn17
      replace sn17 : ρ (.tmp 46) = _ := sn17
      rw [place_at HVS.out (k := 24) rfl] at sn24
      replace sn24 : ρ (.tmp 53) = _ := sn24
      clear hf
      clear HCS HVS qs1 qs2 qs3 qs7
      refine run_plain ?_
      first | refine op_pick_t rfl sn17 sn24 ?_ | refine op_pick_f rfl sn17 (hρ.const _) ?_
      exact detK.mk
    -- 26: slot 6 := Op.assign t54
    refine sure_det (js := [(25, 54)]) (ts := []) (gd := none) (place_at HVS.out (k := 26) rfl) (by rw [HCS.out]; kernel_rfl) ?_ ?_
    · intro wx hx ρ hρ hs hf
      have hρc := hρ.const
      have hρf := hρ.func
      obtain ⟨sn25, -⟩ := hs
      rw [place_at HVS.out (k := 25) rfl] at sn25
      replace sn25 : ρ (.tmp 54) = _ := sn25
      clear hf
      clear HCS HVS qs1 qs2 qs3 qs7
      refine run_plain ?_
      refine op_assign rfl sn25 ?_
      exact detK.mk
    exact trivial
  case hend =>
    intro xs wx hx hg
    have gk0 : xs 0 = _ := goods_get hg (i := 0) (j := 0) (d := 29) rfl
    have gk1 : xs 1 = _ := goods_get hg (i := 1) (j := 1) (d := 30) rfl
    have gk2 : xs 2 = _ := goods_get hg (i := 2) (j := 2) (d := 31) rfl
    have gk3 : xs 3 = _ := goods_get hg (i := 3) (j := 3) (d := 32) rfl
    have gk4 : ∃ A' c', (xs 4) = .agg #[.slice A' (n + m) c', .int .i64 k] ∧ BytesV wx A' (n + m) c' (d ++ b) := goods_get hg (i := 4) (j := 4) (d := 33) rfl
    have gk5 : xs 5 = _ := goods_get hg (i := 5) (j := 5) (d := 34) rfl
    have gk6 : xs 6 = _ := goods_get hg (i := 6) (j := 6) (d := 35) rfl
    have gk7 : ∃ A' c', (xs 7) = .agg #[.slice A' (n + m) c', .int .i64 k] ∧ BytesV wx A' (n + m) c' (d ++ b) := goods_get hg (i := 7) (j := 7) (d := 36) rfl
    have gk8 : xs 8 = _ := goods_get hg (i := 8) (j := 8) (d := 37) rfl
    have gk9 : xs 9 = _ := goods_get hg (i := 9) (j := 9) (d := 38) rfl
    have gk10 : xs 10 = _ := goods_get hg (i := 10) (j := 10) (d := 39) rfl
    have gk11 : xs 11 = _ := goods_get hg (i := 11) (j := 11) (d := 40) rfl
    have gk12 : xs 12 = _ := goods_get hg (i := 12) (j := 12) (d := 41) rfl
    have gk13 : xs 13 = _ := goods_get hg (i := 13) (j := 13) (d := 42) rfl
    have gk14 : xs 14 = _ := goods_get hg (i := 14) (j := 14) (d := 43) rfl
    have gk15 : xs 15 = _ := goods_get hg (i := 15) (j := 15) (d := 44) rfl
    have gk16 : xs 16 = _ := goods_get hg (i := 16) (j := 16) (d := 45) rfl
    have gk17 : xs 17 = _ := goods_get hg (i := 17) (j := 17) (d := 46) rfl
    have gk18 : xs 18 = _ := goods_get hg (i := 18) (j := 18) (d := 47) rfl
    have gk19 : xs 19 = _ := goods_get hg (i := 19) (j := 19) (d := 48) rfl
    have gk20 : xs 20 = _ := goods_get hg (i := 20) (j := 20) (d := 49) rfl
    have gk21 : xs 21 = _ := goods_get hg (i := 21) (j := 21) (d := 50) rfl
    have gk22 : xs 22 = _ := goods_get hg (i := 22) (j := 22) (d := 51) rfl
    have gk23 : ∃ A' c', (xs 23) = .agg #[.slice A' (cutN n k more) c', .int .i64 (cutN n k more)] ∧ BytesV wx A' (cutN n k more) c' (d.take (cutN n k more)) := goods_get hg (i := 23) (j := 23) (d := 52) rfl
    have gk24 : xs 24 = _ := goods_get hg (i := 24) (j := 24) (d := 53) rfl
    have gk25 : xs 25 = _ := goods_get hg (i := 25) (j := 25) (d := 54) rfl
    have gk26 : xs 26 = _ := goods_get hg (i := 26) (j := 26) (d := 6) rfl
    clear hg
    simp only [putAll, gk0, gk1, gk2, gk3, gk5, gk6, gk8, gk9, gk10, gk11, gk12, gk13, gk14, gk15, gk16, gk17, gk18, gk19, gk20, gk21, gk22, gk24, gk25, gk26]
    clear gk0 gk1 gk2 gk3 gk5 gk6 gk8 gk9 gk10 gk11 gk12 gk13 gk14 gk15 gk16 gk17 gk18 gk19 gk20 gk21 gk22 gk24 gk25 gk26
    generalize xs 4 = vx4 at gk4 ⊢
    generalize xs 7 = vx7 at gk7 ⊢
    generalize xs 23 = vx23 at gk23 ⊢
    clear xs
    simp only [Act.put, List.setIfInBounds_toArray, List.set_cons_zero, List.set_cons_succ]
    go_wp2
    go_ret
    exact ⟨rfl, hEx wx hx⟩
set_option maxRecDepth 100000 in
theorem StreamTells_lifted (os : Os) (started : os.Started) (H : Type) (enc : TypeId × Value → H) :
    ReturnsInHanded {} Try.checked os 3 .any (Rows.streamTellsSpec.pre6 enc Try.prog Try.f3 Rows.streamTellsRow.domain false) (Rows.streamTellsSpec.post enc Try.prog Try.f3 false true false false) := by
  refine law_row os started H enc Rows.streamTellsSpec rfl (fun ds h => by
    match ds, h with
    | [_, _, _], _ => rfl) (by kernel_rfl) Try.func3 rfl
    (by rw [Try.params3]; intro t ht; simp at ht; rcases ht with rfl | rfl | rfl <;> exact ⟨by kernel_rfl, of_decide_eq_true (by kernel_rfl)⟩)
    (ChangeSpec.witness6 (enc := enc) (C := Try.checked) false ⟨#[], #[.agg #[.slice none 0 0, .int .i64 0], .slice none 0 0, .int .i64 0], []⟩ 8 (by kernel_rfl) (by kernel_rfl) (by kernel_rfl) (by kernel_rfl)) ?_
  intro W base args ds ps hval hA hlt
  rw [Try.params3] at hA hval
  obtain ⟨v0, v1, v2, d0, d1, d2, p0, p1, p2, rfl, rfl, rfl, h0, h1, h2⟩ := trodAll_three hA
  obtain ⟨A, n, c, k, d, rfl, hV, _⟩ := open_stream (hval 0 _ v0 rfl rfl) h0
  obtain ⟨B, m, c2, b, rfl, hV1⟩ := open_bytes1 (hval 1 _ v1 rfl rfl) h1
  obtain ⟨more, rfl, rfl, rfl, w2⟩ := open_int Try.underlying3 (hval 2 _ v2 rfl rfl) h2
  by_cases h : 500 < n ∨ 500 < m ∨ rightB k n = false
  · exact tells_up A B n c m c2 k more W h
  · simp only [not_or, Bool.not_eq_false, Nat.not_lt] at h
    exact tells_walk A B n c m c2 k more d b W hV hV1 h.1 h.2.1 h.2.2
theorem StreamTells_holds : Rows.StreamTellsSaid :=
  OpenClaim.holds_of_wide 3 Try.f3 rfl rfl rfl rfl rfl rfl rfl ⟨rfl, rfl, rfl, rfl, rfl⟩ rfl rfl rfl rfl rfl (by kernel_rfl) Try.func3 (by kernel_rfl)
    (of_decide_eq_true (by kernel_rfl)) (by unfold Func.isWrapper; rw [if_neg (of_decide_eq_false (by kernel_rfl))]; exact ⟨rfl, rfl⟩)
    (fun os started H enc _ => StreamTells_lifted os started H enc)
#print axioms StreamTells_holds
end Go.Proofs.Ythncdpopacdekaa
