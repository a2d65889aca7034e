/- Proved: the law StreamTwice (synced twice is synced once; cut behind a cut cuts no more) returns true at every input and turns none of its arguments. No condition. -/
import Derived.Test.YthncdpopacdekaaShown6
import Derived.Test.YthncdpopacdekaaLift
import Derived.Test.YthncdpopacdekaaStreamOpen
namespace Go.Proofs.Ythncdpopacdekaa
open Go.ChangeShapes Go.WideShapes Go.ChangeAt Go.RowKit

theorem twice_up (A : Option Addr) (n c : Nat) (k a b : Int) (w : World) (h : 300 < n ∨ rightB k n = false) :
    Calls Try.prog 6 #[.agg #[.slice A n c, .int .i64 k], .int .i64 a, .int .i64 b] w fun e w' => e = .returned (.bool true) ∧ Ext w w' := by
  have hE : Ext w (w.alloc (.cells #[.slice A n c, .int .i64 k] 24)) := (Below.refl _ w).alloc (Nat.le_refl _) _
  by_cases hn : 300 < n
  · go_enter Try.func6, Try.ntmps6
    go_wp2_with (go_at_call 13; refine (shown6_any _).mono ?_; rintro e w1 ⟨rfl, hx1⟩; have c0 := hx1.cell (p := ⟨w.heap.size, 0, none⟩) (v := .slice A n c) (by simp [go_sem]); replace hE := hE.trans hx1; clear hx1)
    go_ret
    exact ⟨rfl, hE⟩
  · have hr : rightB k n = false := h.resolve_left hn
    go_enter Try.func6, Try.ntmps6
    go_wp2_with (first
      | (go_at_call 13; refine (shown6_any _).mono ?_; rintro e w1 ⟨rfl, hx1⟩; have c0 := hx1.cell (p := ⟨w.heap.size, 0, none⟩) (v := .slice A n c) (by simp [go_sem]); have c1 := hx1.cell (p := ⟨w.heap.size, 1, none⟩) (v := .int .i64 k) (by simp [go_sem]); replace hE := hE.trans hx1; clear hx1)
      | (go_at_call 14; refine (rright_any _ _ _ _ _).mono ?_; rintro e w2 ⟨rfl, hx2⟩; replace hE := hE.trans hx2; clear hx2))
    go_ret
    exact ⟨rfl, hE⟩
theorem cutN_mono {n : Nat} {k a b : Int} (h : ¬ a < b) (h0 : 0 ≤ k) (h1 : k ≤ n) : cutN n k b ≤ cutN n k a := by unfold cutN; omega
set_option maxHeartbeats 4000000 in
theorem twice_walk (A : Option Addr) (n c : Nat) (k a b : Int) (d : List UInt8) (w : World) (hA : BytesV w A n c d) (hn : n ≤ 300) (hr : rightB k n = true) :
    Calls Try.prog 6 #[.agg #[.slice A n c, .int .i64 k], .int .i64 a, .int .i64 b] w fun e w' => e = .returned (.bool true) ∧ Ext w w' := by
  have hE : Ext w (w.alloc (.cells #[.slice A n c, .int .i64 k] 24)) := (Below.refl _ w).alloc (Nat.le_refl _) _
  obtain ⟨k0, k1⟩ := rightB_spec hr
  have hNa := cutN_le (more := a) k0 k1
  have hNb := cutN_le (more := b) k0 k1
  have hnc := hA.le
  have hmono := @cutN_mono n k a b
  go_enter Try.func6, Try.ntmps6
  go_wp2_with (first
    | (go_at_call 13; refine (shown6_any _).mono ?_; rintro e w1 ⟨rfl, hx1⟩; have c0 := hx1.cell (p := ⟨w.heap.size, 0, none⟩) (v := .slice A n c) (by simp [go_sem]); have c1 := hx1.cell (p := ⟨w.heap.size, 1, none⟩) (v := .int .i64 k) (by simp [go_sem]); replace hE := hE.trans hx1; clear hx1)
    | (go_at_call 14; refine (rright_any _ _ _ _ _).mono ?_; rintro e w2 ⟨rfl, hx2⟩; replace c0 := hx2.cell c0; replace c1 := hx2.cell c1; replace hE := hE.trans hx2; clear hx2)
    | (go_at_call 19; refine (sync_any _ _ _ _ (by omega) _).mono ?_; rintro e w3 ⟨rfl, hx3⟩; replace c0 := hx3.cell c0; replace c1 := hx3.cell c1; replace hE := hE.trans hx3; have hz3 : w.heap.size < w3.heap.size := lt_of_cell c0; clear hx3)
    | (go_at_call 21; refine (cut_any A n c k a (by omega) (by omega) (by omega) (by omega) _).mono ?_; rintro e w4 ⟨rfl, hx4⟩; have c2 := hx4.cell (p := ⟨w3.heap.size, 0, none⟩) (v := .slice A n c) (by simp [go_sem]); have c3 := hx4.cell (p := ⟨w3.heap.size, 1, none⟩) (v := .int .i64 n) (by simp [go_sem]); replace hx4 := Ext.trans ((Below.refl _ w3).alloc (Nat.le_refl _) _) hx4; replace c0 := hx4.cell c0; replace c1 := hx4.cell c1; replace hE := hE.trans hx4; have hz4 : w3.heap.size < w4.heap.size := lt_of_cell c2; clear hx4))
  generalize hN : cutN n k a = N at *
  have HN := Lib.hid hN
  clear hN
  have hboxx : ∀ wx, Ext (w4.alloc (.cells #[.slice A N N, .int .i64 N] 24)).drew wx → wx.cell? ⟨w.heap.size, 0, none⟩ = some (.slice A n c) ∧ wx.cell? ⟨w.heap.size, 1, none⟩ = some (.int .i64 k) ∧
      wx.cell? ⟨w3.heap.size, 0, none⟩ = some (.slice A n c) ∧ wx.cell? ⟨w3.heap.size, 1, none⟩ = some (.int .i64 n) ∧ wx.cell? ⟨w4.heap.size, 0, none⟩ = some (.slice A N N) ∧ wx.cell? ⟨w4.heap.size, 1, none⟩ = some (.int .i64 N) := fun wx hx =>
    have hq : Ext w4 wx := (Ext.new w4 _).trans hx
    ⟨hq.cell c0, hq.cell c1, hq.cell c2, hq.cell c3, hx.cell (by simp [go_sem]), hx.cell (by simp [go_sem])⟩
  have hAx : ∀ wx, Ext (w4.alloc (.cells #[.slice A N N, .int .i64 N] 24)).drew wx → BytesV wx A n c d := fun wx hx => hA.ext (hE.trans ((Ext.new w4 _).trans hx))
  have hEx : ∀ wx, Ext (w4.alloc (.cells #[.slice A N N, .int .i64 N] 24)).drew wx → Ext w wx := fun wx hx => hE.trans ((Ext.new w4 _).trans hx)
  clear c0 c1 c2 c3 hE
  have hle : a < b ∨ (¬ a < b ∧ ((cutN n k b : Nat) : Int) ≤ ((N : Nat) : Int)) := by
    by_cases hab : a < b
    · exact .inl hab
    · exact .inr ⟨hab, by have := hmono (by omega) k0 k1; omega⟩
  clear hmono
  rcases hle with hab | ⟨hab, hle⟩
  all_goals
    refine' wp_region_sure ((some 26, [], none) :: (some 27, [0], none) :: (some 28, [1], some (1, true)) :: (some 29, [2, 1, 1], some (1, true)) :: (some 30, [1], some (1, true)) :: (some 31, [3, 4, 3, 1], some (1, true)) :: (some 32, [1, 5], none) :: (some 33, [6, 5], none) :: (some 34, [7], some (7, true)) :: (some 35, [7], some (7, true)) :: (some 36, [8, 9, 7, 7], some (7, true)) :: (some 37, [7], some (7, true)) :: (some 38, [10, 11, 10, 7], some (7, true)) :: (some 39, [7, 12], none) :: (some 40, [13, 12], none) :: (some 41, [14], some (14, true)) :: (some 42, [14], some (14, true)) :: (some 43, [15, 16, 14, 14], some (14, true)) :: (some 44, [14], some (14, true)) :: (some 45, [17, 18, 17, 14], some (14, true)) :: (some 46, [14, 19], none) :: (some 47, [20, 19], none) :: (some 48, [21], some (21, true)) :: (some 49, [21], some (21, true)) :: (some 50, [22, 23, 21], some (21, true)) :: (some 51, [24, 21, 21], some (21, true)) :: (some 52, [25], some (25, false)) :: (some 53, [25], some (25, false)) :: (some 54, [26, 27, 25, 25], some (25, false)) :: (some 55, [28, 25], some (25, false)) :: (some 56, [29, 25], some (25, false)) :: (some 57, [25], some (25, false)) :: (some 58, [31, 25], some (25, false)) :: (some 59, [32, 25], some (25, false)) :: (some 60, [30, 33, 25], some (25, false)) :: (some 61, [25, 34, 21], some (21, true)) :: (some 62, [21, 35], none) :: (some 6, [36, 28, 0, 1, 2, 3, 4, 5, 6, 7, 8, 9, 10, 11, 12, 13, 14, 15, 16, 17, 18, 19, 20, 21, 22, 23, 24, 25, 26, 27, 28, 29, 30, 31, 32, 33, 34, 35, 36], none) :: []) (0 :: 1 :: 3 :: 7 :: 3 :: 31 :: 63 :: 127 :: 255 :: 255 :: 1023 :: 255 :: 4095 :: 8191 :: 16383 :: 32767 :: 32767 :: 131071 :: 32767 :: 524287 :: 1048575 :: 2097151 :: 4194303 :: 4194303 :: 16777215 :: 33554431 :: 67108863 :: 67108863 :: 268435455 :: 536870911 :: 1073741823 :: 67108863 :: 2214592511 :: 6509559807 :: 17179869183 :: 34359738367 :: 68719476735 :: 137438953471 :: []) 38 63 ((0, 26) :: (1, 27) :: (2, 28) :: (3, 29) :: (4, 30) :: (5, 31) :: (6, 32) :: (7, 33) :: (8, 34) :: (9, 35) :: (10, 36) :: (11, 37) :: (12, 38) :: (13, 39) :: (14, 40) :: (15, 41) :: (16, 42) :: (17, 43) :: (18, 44) :: (19, 45) :: (20, 46) :: (21, 47) :: (22, 48) :: (23, 49) :: (24, 50) :: (25, 51) :: (26, 52) :: (27, 53) :: (28, 54) :: (29, 55) :: (30, 56) :: (31, 57) :: (32, 58) :: (33, 59) :: (34, 60) :: (35, 61) :: (36, 62) :: (37, 6) :: []) (.det _ :: .det _ :: .det _ :: .det _ :: .det _ :: .det _ :: .det _ :: .det _ :: .det _ :: .det _ :: .det _ :: .det _ :: .det _ :: .det _ :: .det _ :: .det _ :: .det _ :: .det _ :: .det _ :: .det _ :: .det _ :: .det _ :: .det _ :: .det _ :: .det _ :: .det _ :: .det _ :: .det _ :: .det _ :: .det _ :: .det _ :: .det _ :: .det _ :: .det _ :: .det _ :: .det _ :: .det _ :: .det _ :: []) (by kernel_rfl) (by kernel_rfl) (by kernel_rfl) rfl (by kernel_rfl) ?hone ?hend
    case hone =>
      intro SS MS frS VS hSS hMS ha hV
      have qs1 := slot_val (t := 1) ha rfl
      simp only [List.getElem_toArray, List.getElem_cons_succ, List.getElem_cons_zero] at qs1
      have qs2 := slot_val (t := 2) ha rfl
      simp only [List.getElem_toArray, List.getElem_cons_succ, List.getElem_cons_zero] at qs2
      have qs3 := slot_val (t := 3) ha rfl
      simp only [List.getElem_toArray, List.getElem_cons_succ, List.getElem_cons_zero] at qs3
      have qs7 := slot_val (t := 7) ha rfl
      simp only [List.getElem_toArray, List.getElem_cons_succ, List.getElem_cons_zero] at qs7
      have qs8 := slot_val (t := 8) ha rfl
      simp only [List.getElem_toArray, List.getElem_cons_succ, List.getElem_cons_zero] at qs8
      have qs9 := slot_val (t := 9) ha rfl
      simp only [List.getElem_toArray, List.getElem_cons_succ, List.getElem_cons_zero] at qs9
      have HSS := Lib.hid hSS
      have HMS := Lib.hid hMS
      have HVS := Lib.hid hV
      clear ha hSS hMS hV
      -- 0: slot 26 := Op.move t7
      refine sure_det (js := []) (ts := [7]) (gd := none) (place_at HVS.out (k := 0) rfl) (by rw [HSS.out, HMS.out]; kernel_rfl) ?_ ?_
      · intro wx hx ρ hρ hs hf
        have k1 := hρ.const
        have k2 := hρ.func
        obtain ⟨fx7, -⟩ := hf
        rw [qs7] at fx7
        clear hs
        clear HSS HMS HVS qs1 qs2 qs3 qs7 qs8 qs9
        refine run_plain ?_
        unfold runs
        go_simp
        exact detK.mk
      -- 1: slot 27 := Op.move t26
      refine sure_det (js := [(0, 26)]) (ts := []) (gd := none) (place_at HVS.out (k := 1) rfl) (by rw [HSS.out, HMS.out]; kernel_rfl) ?_ ?_
      · intro wx hx ρ hρ hs hf
        have k1 := hρ.const
        have k2 := hρ.func
        obtain ⟨sn0, -⟩ := hs
        rw [place_at HVS.out (k := 0) rfl] at sn0
        replace sn0 : ρ (.tmp 26) = _ := sn0
        clear hf
        clear HSS HMS HVS qs1 qs2 qs3 qs7 qs8 qs9
        refine run_plain ?_
        unfold runs
        go_simp
        exact detK.mk
      -- 2: slot 28 := Op.load 24 t8
      refine sure_det (js := [(1, 27)]) (ts := [8]) (gd := (some (27, true))) (place_at HVS.out (k := 2) rfl) (by rw [HSS.out, HMS.out]; kernel_rfl) ?_ ?_
      · intro wx hx ρ hρ hs hf
        have k1 := hρ.const
        have k2 := hρ.func
        obtain ⟨sn1, -⟩ := hs
        obtain ⟨fx8, -⟩ := hf
        rw [qs8] at fx8
        rw [place_at HVS.out (k := 1) rfl] at sn1
        replace sn1 : ρ (.tmp 27) = _ := sn1
        clear HSS HMS HVS qs1 qs2 qs3 qs7 qs8 qs9
        first
          | (refine run_passed sn1 ?_
             exact detK.mk)
          | (refine run_guarded sn1 ?_
             obtain ⟨c0, c1, c2, c3, c4, c5⟩ := hboxx wx hx
             unfold runs
             go_simp
             exact detK.mk)
      -- 3: slot 29 := Op.call { call ( 19), args := #[t28], argTypes := #[24] }
      refine sure_det (js := [(2, 28), (1, 27)]) (ts := []) (gd := (some (27, true))) (place_at HVS.out (k := 3) rfl) (by rw [HSS.out, HMS.out]; kernel_rfl) ?_ ?_
      · intro wx hx ρ hρ hs hf
        have k1 := hρ.const
        have k2 := hρ.func
        obtain ⟨sn2, sn1, -⟩ := hs
        rw [place_at HVS.out (k := 2) rfl] at sn2
        replace sn2 : ρ (.tmp 28) = _ := sn2
        rw [place_at HVS.out (k := 1) rfl] at sn1
        replace sn1 : ρ (.tmp 27) = _ := sn1
        clear hf
        clear HSS HMS HVS qs1 qs2 qs3 qs7 qs8 qs9
        first
          | (refine run_passed sn1 ?_
             exact detK.mk)
          | (refine run_guarded sn1 ?_
             unfold runs
             go_simp
             first | ((with_reducible refine Calls.mono (sync_any A n c n (by omega) _) ?_); rintro e w' ⟨rfl, hx5⟩; refine ⟨_, rfl, ?_⟩; exact detK.ext hx5) | ((with_reducible refine Calls.mono (same_yes A A n c c n d _ (hAx wx hx) (hAx wx hx)) ?_); rintro e w' ⟨rfl, hx5⟩; refine ⟨_, rfl, ?_⟩; exact detK.ext hx5) | ((with_reducible refine Calls.mono (cut_self A N N b (by omega) (Nat.le_refl _) _) ?_); rintro e w' ⟨rfl, hx5⟩; refine ⟨_, rfl, ?_⟩; exact detK.ext hx5) | ((with_reducible refine Calls.mono (same_yes A A N N N N (d.take N) _ ((hAx wx hx).cut hNa) ((hAx wx hx).cut hNa)) ?_); rintro e w' ⟨rfl, hx5⟩; refine ⟨_, rfl, ?_⟩; exact detK.ext hx5) | ((with_reducible refine Calls.mono (cut_self A n c b (by omega) (by omega) _) ?_); rintro e w' ⟨rfl, hx5⟩; refine ⟨_, rfl, ?_⟩; exact detK.ext hx5) | ((with_reducible refine Calls.mono (same_yes A A n n c n d _ (hAx wx hx).more (hAx wx hx)) ?_); rintro e w' ⟨rfl, hx5⟩; refine ⟨_, rfl, ?_⟩; exact detK.ext hx5) | ((with_reducible refine Calls.mono (cut_any A n c k b (by omega) (by omega) (by omega) (by omega) _) ?_); rintro e w' ⟨rfl, hx5⟩; refine ⟨_, rfl, ?_⟩; exact detK.ext hx5))
      -- 4: slot 30 := Op.load 24 t8
      refine sure_det (js := [(1, 27)]) (ts := [8]) (gd := (some (27, true))) (place_at HVS.out (k := 4) rfl) (by rw [HSS.out, HMS.out]; kernel_rfl) ?_ ?_
      · intro wx hx ρ hρ hs hf
        have k1 := hρ.const
        have k2 := hρ.func
        obtain ⟨sn1, -⟩ := hs
        obtain ⟨fx8, -⟩ := hf
        rw [qs8] at fx8
        rw [place_at HVS.out (k := 1) rfl] at sn1
        replace sn1 : ρ (.tmp 27) = _ := sn1
        clear HSS HMS HVS qs1 qs2 qs3 qs7 qs8 qs9
        first
          | (refine run_passed sn1 ?_
             exact detK.mk)
          | (refine run_guarded sn1 ?_
             obtain ⟨c0, c1, c2, c3, c4, c5⟩ := hboxx wx hx
             unfold runs
             go_simp
             exact detK.mk)
      -- 5: slot 31 := Op.call { call ( 16), args := #[t29, t30], argTypes := #[24, 24] }
      refine sure_det (js := [(3, 29), (4, 30), (1, 27)]) (ts := []) (gd := (some (27, true))) (place_at HVS.out (k := 5) rfl) (by rw [HSS.out, HMS.out]; kernel_rfl) ?_ ?_
      · intro wx hx ρ hρ hs hf
        have k1 := hρ.const
        have k2 := hρ.func
        obtain ⟨sn3, sn4, sn1, -⟩ := hs
        rw [place_at HVS.out (k := 3) rfl] at sn3
        replace sn3 : ρ (.tmp 29) = _ := sn3
        rw [place_at HVS.out (k := 4) rfl] at sn4
        replace sn4 : ρ (.tmp 30) = _ := sn4
        rw [place_at HVS.out (k := 1) rfl] at sn1
        replace sn1 : ρ (.tmp 27) = _ := sn1
        clear hf
        clear HSS HMS HVS qs1 qs2 qs3 qs7 qs8 qs9
        first
          | (refine run_passed sn1 ?_
             exact detK.mk)
          | (refine run_guarded sn1 ?_
             unfold runs
             go_simp
             first | ((with_reducible refine Calls.mono (sync_any A n c n (by omega) _) ?_); rintro e w' ⟨rfl, hx5⟩; refine ⟨_, rfl, ?_⟩; exact detK.ext hx5) | ((with_reducible refine Calls.mono (same_yes A A n c c n d _ (hAx wx hx) (hAx wx hx)) ?_); rintro e w' ⟨rfl, hx5⟩; refine ⟨_, rfl, ?_⟩; exact detK.ext hx5) | ((with_reducible refine Calls.mono (cut_self A N N b (by omega) (Nat.le_refl _) _) ?_); rintro e w' ⟨rfl, hx5⟩; refine ⟨_, rfl, ?_⟩; exact detK.ext hx5) | ((with_reducible refine Calls.mono (same_yes A A N N N N (d.take N) _ ((hAx wx hx).cut hNa) ((hAx wx hx).cut hNa)) ?_); rintro e w' ⟨rfl, hx5⟩; refine ⟨_, rfl, ?_⟩; exact detK.ext hx5) | ((with_reducible refine Calls.mono (cut_self A n c b (by omega) (by omega) _) ?_); rintro e w' ⟨rfl, hx5⟩; refine ⟨_, rfl, ?_⟩; exact detK.ext hx5) | ((with_reducible refine Calls.mono (same_yes A A n n c n d _ (hAx wx hx).more (hAx wx hx)) ?_); rintro e w' ⟨rfl, hx5⟩; refine ⟨_, rfl, ?_⟩; exact detK.ext hx5) | ((with_reducible refine Calls.mono (cut_any A n c k b (by omega) (by omega) (by omega) (by omega) _) ?_); rintro e w' ⟨rfl, hx5⟩; refine ⟨_, rfl, ?_⟩; exact detK.ext hx5))
      -- 6: slot 32 := Op.pick t27 t31 ((Value.bool false))
      refine sure_det (js := [(1, 27), (5, 31)]) (ts := []) (gd := none) (place_at HVS.out (k := 6) rfl) (by rw [HSS.out, HMS.out]; kernel_rfl) ?_ ?_
      · intro wx hx ρ hρ hs hf
        have k1 := hρ.const
        have k2 := hρ.func
        obtain ⟨sn1, sn5, -⟩ := hs
        rw [place_at HVS.out (k := 1) rfl] at sn1
        replace sn1 : ρ (.tmp 27) = _ := sn1
        rw [place_at HVS.out (k := 5) rfl] at sn5
        replace sn5 : ρ (.tmp 31) = _ := sn5
        clear hf
        clear HSS HMS HVS qs1 qs2 qs3 qs7 qs8 qs9
        refine run_plain ?_
        unfold runs
        go_simp
        exact detK.mk
      -- 7: slot 33 := Op.move t32
      refine sure_det (js := [(6, 32)]) (ts := []) (gd := none) (place_at HVS.out (k := 7) rfl) (by rw [HSS.out, HMS.out]; kernel_rfl) ?_ ?_
      · intro wx hx ρ hρ hs hf
        have k1 := hρ.const
        have k2 := hρ.func
        obtain ⟨sn6, -⟩ := hs
        rw [place_at HVS.out (k := 6) rfl] at sn6
        replace sn6 : ρ (.tmp 32) = _ := sn6
        clear hf
        clear HSS HMS HVS qs1 qs2 qs3 qs7 qs8 qs9
        refine run_plain ?_
        unfold runs
        go_simp
        exact detK.mk
      -- 8: slot 34 := Op.load 24 t9
      refine sure_det (js := [(7, 33)]) (ts := [9]) (gd := (some (33, true))) (place_at HVS.out (k := 8) rfl) (by rw [HSS.out, HMS.out]; kernel_rfl) ?_ ?_
      · intro wx hx ρ hρ hs hf
        have k1 := hρ.const
        have k2 := hρ.func
        obtain ⟨sn7, -⟩ := hs
        obtain ⟨fx9, -⟩ := hf
        rw [qs9] at fx9
        rw [place_at HVS.out (k := 7) rfl] at sn7
        replace sn7 : ρ (.tmp 33) = _ := sn7
        clear HSS HMS HVS qs1 qs2 qs3 qs7 qs8 qs9
        first
          | (refine run_passed sn7 ?_
             exact detK.mk)
          | (refine run_guarded sn7 ?_
             obtain ⟨c0, c1, c2, c3, c4, c5⟩ := hboxx wx hx
             unfold runs
             go_simp
             exact detK.mk)
      -- 9: slot 35 := Op.move t2
      refine sure_det (js := [(7, 33)]) (ts := [2]) (gd := (some (33, true))) (place_at HVS.out (k := 9) rfl) (by rw [HSS.out, HMS.out]; kernel_rfl) ?_ ?_
      · intro wx hx ρ hρ hs hf
        have k1 := hρ.const
        have k2 := hρ.func
        obtain ⟨sn7, -⟩ := hs
        obtain ⟨fx2, -⟩ := hf
        rw [qs2] at fx2
        rw [place_at HVS.out (k := 7) rfl] at sn7
        replace sn7 : ρ (.tmp 33) = _ := sn7
        clear HSS HMS HVS qs1 qs2 qs3 qs7 qs8 qs9
        first
          | (refine run_passed sn7 ?_
             exact detK.mk)
          | (refine run_guarded sn7 ?_
             unfold runs
             go_simp
             exact detK.mk)
      -- 10: slot 36 := Op.call { call ( 21), args := #[t34, t35], argTypes := #[24, 3] }
      refine sure_det (js := [(8, 34), (9, 35), (7, 33)]) (ts := []) (gd := (some (33, true))) (place_at HVS.out (k := 10) rfl) (by rw [HSS.out, HMS.out]; kernel_rfl) ?_ ?_
      · intro wx hx ρ hρ hs hf
        have k1 := hρ.const
        have k2 := hρ.func
        obtain ⟨sn8, sn9, sn7, -⟩ := hs
        rw [place_at HVS.out (k := 8) rfl] at sn8
        replace sn8 : ρ (.tmp 34) = _ := sn8
        rw [place_at HVS.out (k := 9) rfl] at sn9
        replace sn9 : ρ (.tmp 35) = _ := sn9
        rw [place_at HVS.out (k := 7) rfl] at sn7
        replace sn7 : ρ (.tmp 33) = _ := sn7
        clear hf
        clear HSS HMS HVS qs1 qs2 qs3 qs7 qs8 qs9
        first
          | (refine run_passed sn7 ?_
             exact detK.mk)
          | (refine run_guarded sn7 ?_
             unfold runs
             go_simp
             first | ((with_reducible refine Calls.mono (sync_any A n c n (by omega) _) ?_); rintro e w' ⟨rfl, hx5⟩; refine ⟨_, rfl, ?_⟩; exact detK.ext hx5) | ((with_reducible refine Calls.mono (same_yes A A n c c n d _ (hAx wx hx) (hAx wx hx)) ?_); rintro e w' ⟨rfl, hx5⟩; refine ⟨_, rfl, ?_⟩; exact detK.ext hx5) | ((with_reducible refine Calls.mono (cut_self A N N b (by omega) (Nat.le_refl _) _) ?_); rintro e w' ⟨rfl, hx5⟩; refine ⟨_, rfl, ?_⟩; exact detK.ext hx5) | ((with_reducible refine Calls.mono (same_yes A A N N N N (d.take N) _ ((hAx wx hx).cut hNa) ((hAx wx hx).cut hNa)) ?_); rintro e w' ⟨rfl, hx5⟩; refine ⟨_, rfl, ?_⟩; exact detK.ext hx5) | ((with_reducible refine Calls.mono (cut_self A n c b (by omega) (by omega) _) ?_); rintro e w' ⟨rfl, hx5⟩; refine ⟨_, rfl, ?_⟩; exact detK.ext hx5) | ((with_reducible refine Calls.mono (same_yes A A n n c n d _ (hAx wx hx).more (hAx wx hx)) ?_); rintro e w' ⟨rfl, hx5⟩; refine ⟨_, rfl, ?_⟩; exact detK.ext hx5) | ((with_reducible refine Calls.mono (cut_any A n c k b (by omega) (by omega) (by omega) (by omega) _) ?_); rintro e w' ⟨rfl, hx5⟩; refine ⟨_, rfl, ?_⟩; exact detK.ext hx5))
      -- 11: slot 37 := Op.load 24 t9
      refine sure_det (js := [(7, 33)]) (ts := [9]) (gd := (some (33, true))) (place_at HVS.out (k := 11) rfl) (by rw [HSS.out, HMS.out]; kernel_rfl) ?_ ?_
      · intro wx hx ρ hρ hs hf
        have k1 := hρ.const
        have k2 := hρ.func
        obtain ⟨sn7, -⟩ := hs
        obtain ⟨fx9, -⟩ := hf
        rw [qs9] at fx9
        rw [place_at HVS.out (k := 7) rfl] at sn7
        replace sn7 : ρ (.tmp 33) = _ := sn7
        clear HSS HMS HVS qs1 qs2 qs3 qs7 qs8 qs9
        first
          | (refine run_passed sn7 ?_
             exact detK.mk)
          | (refine run_guarded sn7 ?_
             obtain ⟨c0, c1, c2, c3, c4, c5⟩ := hboxx wx hx
             unfold runs
             go_simp
             exact detK.mk)
      -- 12: slot 38 := Op.call { call ( 16), args := #[t36, t37], argTypes := #[24, 24] }
      refine sure_det (js := [(10, 36), (11, 37), (7, 33)]) (ts := []) (gd := (some (33, true))) (place_at HVS.out (k := 12) rfl) (by rw [HSS.out, HMS.out]; kernel_rfl) ?_ ?_
      · intro wx hx ρ hρ hs hf
        have k1 := hρ.const
        have k2 := hρ.func
        obtain ⟨sn10, sn11, sn7, -⟩ := hs
        rw [place_at HVS.out (k := 10) rfl] at sn10
        replace sn10 : ρ (.tmp 36) = _ := sn10
        rw [place_at HVS.out (k := 11) rfl] at sn11
        replace sn11 : ρ (.tmp 37) = _ := sn11
        rw [place_at HVS.out (k := 7) rfl] at sn7
        replace sn7 : ρ (.tmp 33) = _ := sn7
        clear hf
        clear HSS HMS HVS qs1 qs2 qs3 qs7 qs8 qs9
        first
          | (refine run_passed sn7 ?_
             exact detK.mk)
          | (refine run_guarded sn7 ?_
             unfold runs
             go_simp
             first | ((with_reducible refine Calls.mono (sync_any A n c n (by omega) _) ?_); rintro e w' ⟨rfl, hx5⟩; refine ⟨_, rfl, ?_⟩; exact detK.ext hx5) | ((with_reducible refine Calls.mono (same_yes A A n c c n d _ (hAx wx hx) (hAx wx hx)) ?_); rintro e w' ⟨rfl, hx5⟩; refine ⟨_, rfl, ?_⟩; exact detK.ext hx5) | ((with_reducible refine Calls.mono (cut_self A N N b (by omega) (Nat.le_refl _) _) ?_); rintro e w' ⟨rfl, hx5⟩; refine ⟨_, rfl, ?_⟩; exact detK.ext hx5) | ((with_reducible refine Calls.mono (same_yes A A N N N N (d.take N) _ ((hAx wx hx).cut hNa) ((hAx wx hx).cut hNa)) ?_); rintro e w' ⟨rfl, hx5⟩; refine ⟨_, rfl, ?_⟩; exact detK.ext hx5) | ((with_reducible refine Calls.mono (cut_self A n c b (by omega) (by omega) _) ?_); rintro e w' ⟨rfl, hx5⟩; refine ⟨_, rfl, ?_⟩; exact detK.ext hx5) | ((with_reducible refine Calls.mono (same_yes A A n n c n d _ (hAx wx hx).more (hAx wx hx)) ?_); rintro e w' ⟨rfl, hx5⟩; refine ⟨_, rfl, ?_⟩; exact detK.ext hx5) | ((with_reducible refine Calls.mono (cut_any A n c k b (by omega) (by omega) (by omega) (by omega) _) ?_); rintro e w' ⟨rfl, hx5⟩; refine ⟨_, rfl, ?_⟩; exact detK.ext hx5))
      -- 13: slot 39 := Op.pick t33 t38 ((Value.bool false))
      refine sure_det (js := [(7, 33), (12, 38)]) (ts := []) (gd := none) (place_at HVS.out (k := 13) rfl) (by rw [HSS.out, HMS.out]; kernel_rfl) ?_ ?_
      · intro wx hx ρ hρ hs hf
        have k1 := hρ.const
        have k2 := hρ.func
        obtain ⟨sn7, sn12, -⟩ := hs
        rw [place_at HVS.out (k := 7) rfl] at sn7
        replace sn7 : ρ (.tmp 33) = _ := sn7
        rw [place_at HVS.out (k := 12) rfl] at sn12
        replace sn12 : ρ (.tmp 38) = _ := sn12
        clear hf
        clear HSS HMS HVS qs1 qs2 qs3 qs7 qs8 qs9
        refine run_plain ?_
        unfold runs
        go_simp
        exact detK.mk
      -- 14: slot 40 := Op.move t39
      refine sure_det (js := [(13, 39)]) (ts := []) (gd := none) (place_at HVS.out (k := 14) rfl) (by rw [HSS.out, HMS.out]; kernel_rfl) ?_ ?_
      · intro wx hx ρ hρ hs hf
        have k1 := hρ.const
        have k2 := hρ.func
        obtain ⟨sn13, -⟩ := hs
        rw [place_at HVS.out (k := 13) rfl] at sn13
        replace sn13 : ρ (.tmp 39) = _ := sn13
        clear hf
        clear HSS HMS HVS qs1 qs2 qs3 qs7 qs8 qs9
        refine run_plain ?_
        unfold runs
        go_simp
        exact detK.mk
      -- 15: slot 41 := Op.load 24 t8
      refine sure_det (js := [(14, 40)]) (ts := [8]) (gd := (some (40, true))) (place_at HVS.out (k := 15) rfl) (by rw [HSS.out, HMS.out]; kernel_rfl) ?_ ?_
      · intro wx hx ρ hρ hs hf
        have k1 := hρ.const
        have k2 := hρ.func
        obtain ⟨sn14, -⟩ := hs
        obtain ⟨fx8, -⟩ := hf
        rw [qs8] at fx8
        rw [place_at HVS.out (k := 14) rfl] at sn14
        replace sn14 : ρ (.tmp 40) = _ := sn14
        clear HSS HMS HVS qs1 qs2 qs3 qs7 qs8 qs9
        first
          | (refine run_passed sn14 ?_
             exact detK.mk)
          | (refine run_guarded sn14 ?_
             obtain ⟨c0, c1, c2, c3, c4, c5⟩ := hboxx wx hx
             unfold runs
             go_simp
             exact detK.mk)
      -- 16: slot 42 := Op.move t2
      refine sure_det (js := [(14, 40)]) (ts := [2]) (gd := (some (40, true))) (place_at HVS.out (k := 16) rfl) (by rw [HSS.out, HMS.out]; kernel_rfl) ?_ ?_
      · intro wx hx ρ hρ hs hf
        have k1 := hρ.const
        have k2 := hρ.func
        obtain ⟨sn14, -⟩ := hs
        obtain ⟨fx2, -⟩ := hf
        rw [qs2] at fx2
        rw [place_at HVS.out (k := 14) rfl] at sn14
        replace sn14 : ρ (.tmp 40) = _ := sn14
        clear HSS HMS HVS qs1 qs2 qs3 qs7 qs8 qs9
        first
          | (refine run_passed sn14 ?_
             exact detK.mk)
          | (refine run_guarded sn14 ?_
             unfold runs
             go_simp
             exact detK.mk)
      -- 17: slot 43 := Op.call { call ( 21), args := #[t41, t42], argTypes := #[24, 3] }
      refine sure_det (js := [(15, 41), (16, 42), (14, 40)]) (ts := []) (gd := (some (40, true))) (place_at HVS.out (k := 17) rfl) (by rw [HSS.out, HMS.out]; kernel_rfl) ?_ ?_
      · intro wx hx ρ hρ hs hf
        have k1 := hρ.const
        have k2 := hρ.func
        obtain ⟨sn15, sn16, sn14, -⟩ := hs
        rw [place_at HVS.out (k := 15) rfl] at sn15
        replace sn15 : ρ (.tmp 41) = _ := sn15
        rw [place_at HVS.out (k := 16) rfl] at sn16
        replace sn16 : ρ (.tmp 42) = _ := sn16
        rw [place_at HVS.out (k := 14) rfl] at sn14
        replace sn14 : ρ (.tmp 40) = _ := sn14
        clear hf
        clear HSS HMS HVS qs1 qs2 qs3 qs7 qs8 qs9
        first
          | (refine run_passed sn14 ?_
             exact detK.mk)
          | (refine run_guarded sn14 ?_
             unfold runs
             go_simp
             first | ((with_reducible refine Calls.mono (sync_any A n c n (by omega) _) ?_); rintro e w' ⟨rfl, hx5⟩; refine ⟨_, rfl, ?_⟩; exact detK.ext hx5) | ((with_reducible refine Calls.mono (same_yes A A n c c n d _ (hAx wx hx) (hAx wx hx)) ?_); rintro e w' ⟨rfl, hx5⟩; refine ⟨_, rfl, ?_⟩; exact detK.ext hx5) | ((with_reducible refine Calls.mono (cut_self A N N b (by omega) (Nat.le_refl _) _) ?_); rintro e w' ⟨rfl, hx5⟩; refine ⟨_, rfl, ?_⟩; exact detK.ext hx5) | ((with_reducible refine Calls.mono (same_yes A A N N N N (d.take N) _ ((hAx wx hx).cut hNa) ((hAx wx hx).cut hNa)) ?_); rintro e w' ⟨rfl, hx5⟩; refine ⟨_, rfl, ?_⟩; exact detK.ext hx5) | ((with_reducible refine Calls.mono (cut_self A n c b (by omega) (by omega) _) ?_); rintro e w' ⟨rfl, hx5⟩; refine ⟨_, rfl, ?_⟩; exact detK.ext hx5) | ((with_reducible refine Calls.mono (same_yes A A n n c n d _ (hAx wx hx).more (hAx wx hx)) ?_); rintro e w' ⟨rfl, hx5⟩; refine ⟨_, rfl, ?_⟩; exact detK.ext hx5) | ((with_reducible refine Calls.mono (cut_any A n c k b (by omega) (by omega) (by omega) (by omega) _) ?_); rintro e w' ⟨rfl, hx5⟩; refine ⟨_, rfl, ?_⟩; exact detK.ext hx5))
      -- 18: slot 44 := Op.load 24 t8
      refine sure_det (js := [(14, 40)]) (ts := [8]) (gd := (some (40, true))) (place_at HVS.out (k := 18) rfl) (by rw [HSS.out, HMS.out]; kernel_rfl) ?_ ?_
      · intro wx hx ρ hρ hs hf
        have k1 := hρ.const
        have k2 := hρ.func
        obtain ⟨sn14, -⟩ := hs
        obtain ⟨fx8, -⟩ := hf
        rw [qs8] at fx8
        rw [place_at HVS.out (k := 14) rfl] at sn14
        replace sn14 : ρ (.tmp 40) = _ := sn14
        clear HSS HMS HVS qs1 qs2 qs3 qs7 qs8 qs9
        first
          | (refine run_passed sn14 ?_
             exact detK.mk)
          | (refine run_guarded sn14 ?_
             obtain ⟨c0, c1, c2, c3, c4, c5⟩ := hboxx wx hx
             unfold runs
             go_simp
             exact detK.mk)
      -- 19: slot 45 := Op.call { call ( 16), args := #[t43, t44], argTypes := #[24, 24] }
      refine sure_det (js := [(17, 43), (18, 44), (14, 40)]) (ts := []) (gd := (some (40, true))) (place_at HVS.out (k := 19) rfl) (by rw [HSS.out, HMS.out]; kernel_rfl) ?_ ?_
      · intro wx hx ρ hρ hs hf
        have k1 := hρ.const
        have k2 := hρ.func
        obtain ⟨sn17, sn18, sn14, -⟩ := hs
        rw [place_at HVS.out (k := 17) rfl] at sn17
        replace sn17 : ρ (.tmp 43) = _ := sn17
        rw [place_at HVS.out (k := 18) rfl] at sn18
        replace sn18 : ρ (.tmp 44) = _ := sn18
        rw [place_at HVS.out (k := 14) rfl] at sn14
        replace sn14 : ρ (.tmp 40) = _ := sn14
        clear hf
        clear HSS HMS HVS qs1 qs2 qs3 qs7 qs8 qs9
        first
          | (refine run_passed sn14 ?_
             exact detK.mk)
          | (refine run_guarded sn14 ?_
             unfold runs
             go_simp
             first | ((with_reducible refine Calls.mono (sync_any A n c n (by omega) _) ?_); rintro e w' ⟨rfl, hx5⟩; refine ⟨_, rfl, ?_⟩; exact detK.ext hx5) | ((with_reducible refine Calls.mono (same_yes A A n c c n d _ (hAx wx hx) (hAx wx hx)) ?_); rintro e w' ⟨rfl, hx5⟩; refine ⟨_, rfl, ?_⟩; exact detK.ext hx5) | ((with_reducible refine Calls.mono (cut_self A N N b (by omega) (Nat.le_refl _) _) ?_); rintro e w' ⟨rfl, hx5⟩; refine ⟨_, rfl, ?_⟩; exact detK.ext hx5) | ((with_reducible refine Calls.mono (same_yes A A N N N N (d.take N) _ ((hAx wx hx).cut hNa) ((hAx wx hx).cut hNa)) ?_); rintro e w' ⟨rfl, hx5⟩; refine ⟨_, rfl, ?_⟩; exact detK.ext hx5) | ((with_reducible refine Calls.mono (cut_self A n c b (by omega) (by omega) _) ?_); rintro e w' ⟨rfl, hx5⟩; refine ⟨_, rfl, ?_⟩; exact detK.ext hx5) | ((with_reducible refine Calls.mono (same_yes A A n n c n d _ (hAx wx hx).more (hAx wx hx)) ?_); rintro e w' ⟨rfl, hx5⟩; refine ⟨_, rfl, ?_⟩; exact detK.ext hx5) | ((with_reducible refine Calls.mono (cut_any A n c k b (by omega) (by omega) (by omega) (by omega) _) ?_); rintro e w' ⟨rfl, hx5⟩; refine ⟨_, rfl, ?_⟩; exact detK.ext hx5))
      -- 20: slot 46 := Op.pick t40 t45 ((Value.bool false))
      refine sure_det (js := [(14, 40), (19, 45)]) (ts := []) (gd := none) (place_at HVS.out (k := 20) rfl) (by rw [HSS.out, HMS.out]; kernel_rfl) ?_ ?_
      · intro wx hx ρ hρ hs hf
        have k1 := hρ.const
        have k2 := hρ.func
        obtain ⟨sn14, sn19, -⟩ := hs
        rw [place_at HVS.out (k := 14) rfl] at sn14
        replace sn14 : ρ (.tmp 40) = _ := sn14
        rw [place_at HVS.out (k := 19) rfl] at sn19
        replace sn19 : ρ (.tmp 45) = _ := sn19
        clear hf
        clear HSS HMS HVS qs1 qs2 qs3 qs7 qs8 qs9
        refine run_plain ?_
        unfold runs
        go_simp
        exact detK.mk
      -- 21: slot 47 := Op.move t46
      refine sure_det (js := [(20, 46)]) (ts := []) (gd := none) (place_at HVS.out (k := 21) rfl) (by rw [HSS.out, HMS.out]; kernel_rfl) ?_ ?_
      · intro wx hx ρ hρ hs hf
        have k1 := hρ.const
        have k2 := hρ.func
        obtain ⟨sn20, -⟩ := hs
        rw [place_at HVS.out (k := 20) rfl] at sn20
        replace sn20 : ρ (.tmp 46) = _ := sn20
        clear hf
        clear HSS HMS HVS qs1 qs2 qs3 qs7 qs8 qs9
        refine run_plain ?_
        unfold runs
        go_simp
        exact detK.mk
      -- 22: slot 48 := Op.move t2
      refine sure_det (js := [(21, 47)]) (ts := [2]) (gd := (some (47, true))) (place_at HVS.out (k := 22) rfl) (by rw [HSS.out, HMS.out]; kernel_rfl) ?_ ?_
      · intro wx hx ρ hρ hs hf
        have k1 := hρ.const
        have k2 := hρ.func
        obtain ⟨sn21, -⟩ := hs
        obtain ⟨fx2, -⟩ := hf
        rw [qs2] at fx2
        rw [place_at HVS.out (k := 21) rfl] at sn21
        replace sn21 : ρ (.tmp 47) = _ := sn21
        clear HSS HMS HVS qs1 qs2 qs3 qs7 qs8 qs9
        first
          | (refine run_passed sn21 ?_
             exact detK.mk)
          | (refine run_guarded sn21 ?_
             unfold runs
             go_simp
             exact detK.mk)
      -- 23: slot 49 := Op.move t1
      refine sure_det (js := [(21, 47)]) (ts := [1]) (gd := (some (47, true))) (place_at HVS.out (k := 23) rfl) (by rw [HSS.out, HMS.out]; kernel_rfl) ?_ ?_
      · intro wx hx ρ hρ hs hf
        have k1 := hρ.const
        have k2 := hρ.func
        obtain ⟨sn21, -⟩ := hs
        obtain ⟨fx1, -⟩ := hf
        rw [qs1] at fx1
        rw [place_at HVS.out (k := 21) rfl] at sn21
        replace sn21 : ρ (.tmp 47) = _ := sn21
        clear HSS HMS HVS qs1 qs2 qs3 qs7 qs8 qs9
        first
          | (refine run_passed sn21 ?_
             exact detK.mk)
          | (refine run_guarded sn21 ?_
             unfold runs
             go_simp
             exact detK.mk)
      -- 24: slot 50 := Op.binOp BinOp.gtr 3 t48 t49 3
      refine sure_det (js := [(22, 48), (23, 49), (21, 47)]) (ts := []) (gd := (some (47, true))) (place_at HVS.out (k := 24) rfl) (by rw [HSS.out, HMS.out]; kernel_rfl) ?_ ?_
      · intro wx hx ρ hρ hs hf
        have k1 := hρ.const
        have k2 := hρ.func
        obtain ⟨sn22, sn23, sn21, -⟩ := hs
        rw [place_at HVS.out (k := 22) rfl] at sn22
        replace sn22 : ρ (.tmp 48) = _ := sn22
        rw [place_at HVS.out (k := 23) rfl] at sn23
        replace sn23 : ρ (.tmp 49) = _ := sn23
        rw [place_at HVS.out (k := 21) rfl] at sn21
        replace sn21 : ρ (.tmp 47) = _ := sn21
        clear hf
        clear HSS HMS HVS qs1 qs2 qs3 qs7 qs8 qs9
        first
          | (refine run_passed sn21 ?_
             exact detK.mk)
          | (refine run_guarded sn21 ?_
             unfold runs
             go_simp
             exact detK.mk)
      -- 25: slot 51 := Op.move t50
      refine sure_det (js := [(24, 50), (21, 47)]) (ts := []) (gd := (some (47, true))) (place_at HVS.out (k := 25) rfl) (by rw [HSS.out, HMS.out]; kernel_rfl) ?_ ?_
      · intro wx hx ρ hρ hs hf
        have k1 := hρ.const
        have k2 := hρ.func
        obtain ⟨sn24, sn21, -⟩ := hs
        rw [place_at HVS.out (k := 24) rfl] at sn24
        replace sn24 : ρ (.tmp 50) = _ := sn24
        rw [place_at HVS.out (k := 21) rfl] at sn21
        replace sn21 : ρ (.tmp 47) = _ := sn21
        clear hf
        clear HSS HMS HVS qs1 qs2 qs3 qs7 qs8 qs9
        first
          | (refine run_passed sn21 ?_
             exact detK.mk)
          | (refine run_guarded sn21 ?_
             unfold runs
             go_simp
             exact detK.mk)
      -- 26: slot 52 := Op.load 24 t3
      refine sure_det (js := [(25, 51)]) (ts := [3]) (gd := (some (51, false))) (place_at HVS.out (k := 26) rfl) (by rw [HSS.out, HMS.out]; kernel_rfl) ?_ ?_
      · intro wx hx ρ hρ hs hf
        have k1 := hρ.const
        have k2 := hρ.func
        obtain ⟨sn25, -⟩ := hs
        obtain ⟨fx3, -⟩ := hf
        rw [qs3] at fx3
        rw [place_at HVS.out (k := 25) rfl] at sn25
        replace sn25 : ρ (.tmp 51) = _ := sn25
        clear HSS HMS HVS qs1 qs2 qs3 qs7 qs8 qs9
        first
          | (refine run_passed sn25 ?_
             exact detK.mk)
          | (refine run_guarded sn25 ?_
             obtain ⟨c0, c1, c2, c3, c4, c5⟩ := hboxx wx hx
             unfold runs
             go_simp
             exact detK.mk)
      -- 27: slot 53 := Op.move t2
      refine sure_det (js := [(25, 51)]) (ts := [2]) (gd := (some (51, false))) (place_at HVS.out (k := 27) rfl) (by rw [HSS.out, HMS.out]; kernel_rfl) ?_ ?_
      · intro wx hx ρ hρ hs hf
        have k1 := hρ.const
        have k2 := hρ.func
        obtain ⟨sn25, -⟩ := hs
        obtain ⟨fx2, -⟩ := hf
        rw [qs2] at fx2
        rw [place_at HVS.out (k := 25) rfl] at sn25
        replace sn25 : ρ (.tmp 51) = _ := sn25
        clear HSS HMS HVS qs1 qs2 qs3 qs7 qs8 qs9
        first
          | (refine run_passed sn25 ?_
             exact detK.mk)
          | (refine run_guarded sn25 ?_
             unfold runs
             go_simp
             exact detK.mk)
      -- 28: slot 54 := Op.call { call ( 21), args := #[t52, t53], argTypes := #[24, 3] }
      refine sure_det (js := [(26, 52), (27, 53), (25, 51)]) (ts := []) (gd := (some (51, false))) (place_at HVS.out (k := 28) rfl) (by rw [HSS.out, HMS.out]; kernel_rfl) ?_ ?_
      · intro wx hx ρ hρ hs hf
        have k1 := hρ.const
        have k2 := hρ.func
        obtain ⟨sn26, sn27, sn25, -⟩ := hs
        rw [place_at HVS.out (k := 26) rfl] at sn26
        replace sn26 : ρ (.tmp 52) = _ := sn26
        rw [place_at HVS.out (k := 27) rfl] at sn27
        replace sn27 : ρ (.tmp 53) = _ := sn27
        rw [place_at HVS.out (k := 25) rfl] at sn25
        replace sn25 : ρ (.tmp 51) = _ := sn25
        clear hf
        clear HSS HMS HVS qs1 qs2 qs3 qs7 qs8 qs9
        first
          | (refine run_passed sn25 ?_
             exact detK.mk)
          | (refine run_guarded sn25 ?_
             unfold runs
             go_simp
             first | ((with_reducible refine Calls.mono (sync_any A n c n (by omega) _) ?_); rintro e w' ⟨rfl, hx5⟩; refine ⟨_, rfl, ?_⟩; exact detK.ext hx5) | ((with_reducible refine Calls.mono (same_yes A A n c c n d _ (hAx wx hx) (hAx wx hx)) ?_); rintro e w' ⟨rfl, hx5⟩; refine ⟨_, rfl, ?_⟩; exact detK.ext hx5) | ((with_reducible refine Calls.mono (cut_self A N N b (by omega) (Nat.le_refl _) _) ?_); rintro e w' ⟨rfl, hx5⟩; refine ⟨_, rfl, ?_⟩; exact detK.ext hx5) | ((with_reducible refine Calls.mono (same_yes A A N N N N (d.take N) _ ((hAx wx hx).cut hNa) ((hAx wx hx).cut hNa)) ?_); rintro e w' ⟨rfl, hx5⟩; refine ⟨_, rfl, ?_⟩; exact detK.ext hx5) | ((with_reducible refine Calls.mono (cut_self A n c b (by omega) (by omega) _) ?_); rintro e w' ⟨rfl, hx5⟩; refine ⟨_, rfl, ?_⟩; exact detK.ext hx5) | ((with_reducible refine Calls.mono (same_yes A A n n c n d _ (hAx wx hx).more (hAx wx hx)) ?_); rintro e w' ⟨rfl, hx5⟩; refine ⟨_, rfl, ?_⟩; exact detK.ext hx5) | ((with_reducible refine Calls.mono (cut_any A n c k b (by omega) (by omega) (by omega) (by omega) _) ?_); rintro e w' ⟨rfl, hx5⟩; refine ⟨_, rfl, ?_⟩; exact detK.ext hx5))
      -- 29: slot 55 := Op.field 24 t54 0
      refine sure_det (js := [(28, 54), (25, 51)]) (ts := []) (gd := (some (51, false))) (place_at HVS.out (k := 29) rfl) (by rw [HSS.out, HMS.out]; kernel_rfl) ?_ ?_
      · intro wx hx ρ hρ hs hf
        have k1 := hρ.const
        have k2 := hρ.func
        obtain ⟨sn28, sn25, -⟩ := hs
        rw [place_at HVS.out (k := 28) rfl] at sn28
        replace sn28 : ρ (.tmp 54) = _ := sn28
        rw [place_at HVS.out (k := 25) rfl] at sn25
        replace sn25 : ρ (.tmp 51) = _ := sn25
        clear hf
        clear HSS HMS HVS qs1 qs2 qs3 qs7 qs8 qs9
        first
          | (refine run_passed sn25 ?_
             exact detK.mk)
          | (refine run_guarded sn25 ?_
             unfold runs
             go_simp
             exact detK.mk)
      -- 30: slot 56 := Op.call { len, args := #[t55], argTypes := #[22] }
      refine sure_det (js := [(29, 55), (25, 51)]) (ts := []) (gd := (some (51, false))) (place_at HVS.out (k := 30) rfl) (by rw [HSS.out, HMS.out]; kernel_rfl) ?_ ?_
      · intro wx hx ρ hρ hs hf
        have k1 := hρ.const
        have k2 := hρ.func
        obtain ⟨sn29, sn25, -⟩ := hs
        rw [place_at HVS.out (k := 29) rfl] at sn29
        replace sn29 : ρ (.tmp 55) = _ := sn29
        rw [place_at HVS.out (k := 25) rfl] at sn25
        replace sn25 : ρ (.tmp 51) = _ := sn25
        clear hf
        clear HSS HMS HVS qs1 qs2 qs3 qs7 qs8 qs9
        first
          | (refine run_passed sn25 ?_
             exact detK.mk)
          | (refine run_guarded sn25 ?_
             unfold runs
             go_simp
             exact detK.mk)
      -- 31: slot 57 := Op.fieldAddr 24 t9 0
      refine sure_det (js := [(25, 51)]) (ts := [9]) (gd := (some (51, false))) (place_at HVS.out (k := 31) rfl) (by rw [HSS.out, HMS.out]; kernel_rfl) ?_ ?_
      · intro wx hx ρ hρ hs hf
        have k1 := hρ.const
        have k2 := hρ.func
        obtain ⟨sn25, -⟩ := hs
        obtain ⟨fx9, -⟩ := hf
        rw [qs9] at fx9
        rw [place_at HVS.out (k := 25) rfl] at sn25
        replace sn25 : ρ (.tmp 51) = _ := sn25
        clear HSS HMS HVS qs1 qs2 qs3 qs7 qs8 qs9
        first
          | (refine run_passed sn25 ?_
             exact detK.mk)
          | (refine run_guarded sn25 ?_
             unfold runs
             go_simp
             exact detK.mk)
      -- 32: slot 58 := Op.load 22 t57
      refine sure_det (js := [(31, 57), (25, 51)]) (ts := []) (gd := (some (51, false))) (place_at HVS.out (k := 32) rfl) (by rw [HSS.out, HMS.out]; kernel_rfl) ?_ ?_
      · intro wx hx ρ hρ hs hf
        have k1 := hρ.const
        have k2 := hρ.func
        obtain ⟨sn31, sn25, -⟩ := hs
        rw [place_at HVS.out (k := 31) rfl] at sn31
        replace sn31 : ρ (.tmp 57) = _ := sn31
        rw [place_at HVS.out (k := 25) rfl] at sn25
        replace sn25 : ρ (.tmp 51) = _ := sn25
        clear hf
        clear HSS HMS HVS qs1 qs2 qs3 qs7 qs8 qs9
        first
          | (refine run_passed sn25 ?_
             exact detK.mk)
          | (refine run_guarded sn25 ?_
             obtain ⟨c0, c1, c2, c3, c4, c5⟩ := hboxx wx hx
             unfold runs
             go_simp
             exact detK.mk)
      -- 33: slot 59 := Op.call { len, args := #[t58], argTypes := #[22] }
      refine sure_det (js := [(32, 58), (25, 51)]) (ts := []) (gd := (some (51, false))) (place_at HVS.out (k := 33) rfl) (by rw [HSS.out, HMS.out]; kernel_rfl) ?_ ?_
      · intro wx hx ρ hρ hs hf
        have k1 := hρ.const
        have k2 := hρ.func
        obtain ⟨sn32, sn25, -⟩ := hs
        rw [place_at HVS.out (k := 32) rfl] at sn32
        replace sn32 : ρ (.tmp 58) = _ := sn32
        rw [place_at HVS.out (k := 25) rfl] at sn25
        replace sn25 : ρ (.tmp 51) = _ := sn25
        clear hf
        clear HSS HMS HVS qs1 qs2 qs3 qs7 qs8 qs9
        first
          | (refine run_passed sn25 ?_
             exact detK.mk)
          | (refine run_guarded sn25 ?_
             unfold runs
             go_simp
             exact detK.mk)
      -- 34: slot 60 := Op.binOp BinOp.leq 3 t56 t59 3
      refine sure_det (js := [(30, 56), (33, 59), (25, 51)]) (ts := []) (gd := (some (51, false))) (place_at HVS.out (k := 34) rfl) (by rw [HSS.out, HMS.out]; kernel_rfl) ?_ ?_
      · intro wx hx ρ hρ hs hf
        have k1 := hρ.const
        have k2 := hρ.func
        obtain ⟨sn30, sn33, sn25, -⟩ := hs
        rw [place_at HVS.out (k := 30) rfl] at sn30
        replace sn30 : ρ (.tmp 56) = _ := sn30
        rw [place_at HVS.out (k := 33) rfl] at sn33
        replace sn33 : ρ (.tmp 59) = _ := sn33
        rw [place_at HVS.out (k := 25) rfl] at sn25
        replace sn25 : ρ (.tmp 51) = _ := sn25
        clear hf
        clear HSS HMS HVS qs1 qs2 qs3 qs7 qs8 qs9
        first
          | (refine run_passed sn25 ?_
             exact detK.mk)
          | (refine run_guarded sn25 ?_
             unfold runs
             go_simp
             exact detK.mk)
      -- 35: slot 61 := Op.pick t51 ((Value.bool true)) t60
      refine sure_det (js := [(25, 51), (34, 60), (21, 47)]) (ts := []) (gd := (some (47, true))) (place_at HVS.out (k := 35) rfl) (by rw [HSS.out, HMS.out]; kernel_rfl) ?_ ?_
      · intro wx hx ρ hρ hs hf
        have k1 := hρ.const
        have k2 := hρ.func
        obtain ⟨sn25, sn34, sn21, -⟩ := hs
        rw [place_at HVS.out (k := 25) rfl] at sn25
        replace sn25 : ρ (.tmp 51) = _ := sn25
        rw [place_at HVS.out (k := 34) rfl] at sn34
        replace sn34 : ρ (.tmp 60) = _ := sn34
        rw [place_at HVS.out (k := 21) rfl] at sn21
        replace sn21 : ρ (.tmp 47) = _ := sn21
        clear hf
        clear HSS HMS HVS qs1 qs2 qs3 qs7 qs8 qs9
        first
          | (refine run_passed sn21 ?_
             exact detK.mk)
          | (refine run_guarded sn21 ?_
             unfold runs
             go_simp
             exact detK.mk)
      -- 36: slot 62 := Op.pick t47 t61 ((Value.bool false))
      refine sure_det (js := [(21, 47), (35, 61)]) (ts := []) (gd := none) (place_at HVS.out (k := 36) rfl) (by rw [HSS.out, HMS.out]; kernel_rfl) ?_ ?_
      · intro wx hx ρ hρ hs hf
        have k1 := hρ.const
        have k2 := hρ.func
        obtain ⟨sn21, sn35, -⟩ := hs
        rw [place_at HVS.out (k := 21) rfl] at sn21
        replace sn21 : ρ (.tmp 47) = _ := sn21
        rw [place_at HVS.out (k := 35) rfl] at sn35
        replace sn35 : ρ (.tmp 61) = _ := sn35
        clear hf
        clear HSS HMS HVS qs1 qs2 qs3 qs7 qs8 qs9
        refine run_plain ?_
        unfold runs
        go_simp
        exact detK.mk
      -- 37: slot 6 := Op.assign t62
      refine sure_det (js := [(36, 62)]) (ts := []) (gd := none) (place_at HVS.out (k := 37) rfl) (by rw [HSS.out, HMS.out]; kernel_rfl) ?_ ?_
      · intro wx hx ρ hρ hs hf
        have k1 := hρ.const
        have k2 := hρ.func
        obtain ⟨sn36, -⟩ := hs
        rw [place_at HVS.out (k := 36) rfl] at sn36
        replace sn36 : ρ (.tmp 62) = _ := sn36
        clear hf
        clear HSS HMS HVS qs1 qs2 qs3 qs7 qs8 qs9
        refine run_plain ?_
        unfold runs
        go_simp
        exact detK.mk
      exact trivial
    case hend =>
      intro xs wx hx hg
      obtain ⟨gk0, gk1, gk2, gk3, gk4, gk5, gk6, gk7, gk8, gk9, gk10, gk11, gk12, gk13, gk14, gk15, gk16, gk17, gk18, gk19, gk20, gk21, gk22, gk23, gk24, gk25, gk26, gk27, gk28, gk29, gk30, gk31, gk32, gk33, gk34, gk35, gk36, gk37, -⟩ := hg
      replace gk0 : xs 0 = _ := gk0
      replace gk1 : xs 1 = _ := gk1
      replace gk2 : xs 2 = _ := gk2
      replace gk3 : xs 3 = _ := gk3
      replace gk4 : xs 4 = _ := gk4
      replace gk5 : xs 5 = _ := gk5
      replace gk6 : xs 6 = _ := gk6
      replace gk7 : xs 7 = _ := gk7
      replace gk8 : xs 8 = _ := gk8
      replace gk9 : xs 9 = _ := gk9
      replace gk10 : xs 10 = _ := gk10
      replace gk11 : xs 11 = _ := gk11
      replace gk12 : xs 12 = _ := gk12
      replace gk13 : xs 13 = _ := gk13
      replace gk14 : xs 14 = _ := gk14
      replace gk15 : xs 15 = _ := gk15
      replace gk16 : xs 16 = _ := gk16
      replace gk17 : xs 17 = _ := gk17
      replace gk18 : xs 18 = _ := gk18
      replace gk19 : xs 19 = _ := gk19
      replace gk20 : xs 20 = _ := gk20
      replace gk21 : xs 21 = _ := gk21
      replace gk22 : xs 22 = _ := gk22
      replace gk23 : xs 23 = _ := gk23
      replace gk24 : xs 24 = _ := gk24
      replace gk25 : xs 25 = _ := gk25
      replace gk26 : xs 26 = _ := gk26
      replace gk27 : xs 27 = _ := gk27
      replace gk28 : xs 28 = _ := gk28
      replace gk29 : xs 29 = _ := gk29
      replace gk30 : xs 30 = _ := gk30
      replace gk31 : xs 31 = _ := gk31
      replace gk32 : xs 32 = _ := gk32
      replace gk33 : xs 33 = _ := gk33
      replace gk34 : xs 34 = _ := gk34
      replace gk35 : xs 35 = _ := gk35
      replace gk36 : xs 36 = _ := gk36
      replace gk37 : xs 37 = _ := gk37
      simp only [putAll, gk0, gk1, gk2, gk3, gk4, gk5, gk6, gk7, gk8, gk9, gk10, gk11, gk12, gk13, gk14, gk15, gk16, gk17, gk18, gk19, gk20, gk21, gk22, gk23, gk24, gk25, gk26, gk27, gk28, gk29, gk30, gk31, gk32, gk33, gk34, gk35, gk36, gk37]
      clear gk0 gk1 gk2 gk3 gk4 gk5 gk6 gk7 gk8 gk9 gk10 gk11 gk12 gk13 gk14 gk15 gk16 gk17 gk18 gk19 gk20 gk21 gk22 gk23 gk24 gk25 gk26 gk27 gk28 gk29 gk30 gk31 gk32 gk33 gk34 gk35 gk36 gk37
      clear xs
      simp only [Act.put, List.setIfInBounds_toArray, List.set_cons_zero, List.set_cons_succ, List.drop_succ_cons, List.drop_nil]
      go_wp2
      go_ret
      exact ⟨rfl, hEx wx hx⟩
set_option maxRecDepth 100000 in
theorem StreamTwice_lifted (os : Os) (started : os.Started) (H : Type) (enc : TypeId × Value → H) :
    ReturnsInHanded {} Try.checked os 6 .any (Rows.streamTwiceSpec.pre6 enc Try.prog Try.f6 Rows.streamTwiceRow.domain false) (Rows.streamTwiceSpec.post enc Try.prog Try.f6 false true false false) := by
  refine law_row os started H enc Rows.streamTwiceSpec rfl (fun ds h => by
    match ds, h with
    | [_, _, _], _ => rfl) (by kernel_rfl) Try.func6 rfl
    (by rw [Try.params6]; intro t ht; simp at ht; rcases ht with rfl | rfl <;> exact ⟨by kernel_rfl, of_decide_eq_true (by kernel_rfl)⟩)
    (ChangeSpec.witness6 (enc := enc) (C := Try.checked) false ⟨#[], #[.agg #[.slice none 0 0, .int .i64 0], .int .i64 0, .int .i64 0], []⟩ 8 (by kernel_rfl) (by kernel_rfl) (by kernel_rfl) (by kernel_rfl)) ?_
  intro W base args ds ps hval hA hlt
  rw [Try.params6] at hA hval
  obtain ⟨v0, v1, v2, d0, d1, d2, p0, p1, p2, rfl, rfl, rfl, h0, h1, h2⟩ := trodAll_three hA
  obtain ⟨A, n, c, k, d, rfl, hV, _⟩ := open_stream (hval 0 _ v0 rfl rfl) h0
  obtain ⟨a1, rfl, rfl, rfl, w1⟩ := open_int Try.underlying3 (hval 1 _ v1 rfl rfl) h1
  obtain ⟨a2, rfl, rfl, rfl, w2⟩ := open_int Try.underlying3 (hval 2 _ v2 rfl rfl) h2
  by_cases hn : n ≤ 300
  · cases hr : rightB k n
    · exact twice_up A n c k a1 a2 W (.inr hr)
    · exact twice_walk A n c k a1 a2 d W hV hn hr
  · exact twice_up A n c k a1 a2 W (.inl (by omega))
theorem StreamTwice_holds : Rows.StreamTwiceSaid :=
  OpenClaim.holds_of_wide 6 Try.f6 rfl rfl rfl rfl rfl rfl rfl ⟨rfl, rfl, rfl, rfl, rfl⟩ rfl rfl rfl rfl rfl (by kernel_rfl) Try.func6 (by kernel_rfl)
    (of_decide_eq_true (by kernel_rfl)) (by unfold Func.isWrapper; rw [if_neg (of_decide_eq_false (by kernel_rfl))]; exact ⟨rfl, rfl⟩)
    (fun os started H enc _ => StreamTwice_lifted os started H enc)
#print axioms StreamTwice_holds
end Go.Proofs.Ythncdpopacdekaa
