/- Proved: the law DiskNew (a new disk is right, and empty; a crash turns it not; each of its streams is read as nothing, and none beside them) returns true at every input and turns none of its arguments. No condition. -/
import Derived.Test.YthgcpfofdbdkpaaDiskShown
import Derived.Test.YthgcpfofdbdkpaaLift
import Derived.Test.YthgcpfofdbdkpaaStreamOpen
namespace Go.Proofs.Ythgcpfofdbdkpaa
open Go.ChangeShapes Go.WideShapes Go.ChangeAt Go.RowKit

theorem zeros_at {N i : Nat} (h : i < N) : (List.replicate N St.zero)[i]? = some St.zero := by simp [h]
theorem zeros_right {N : Nat} : ∀ s ∈ List.replicate N St.zero, rightB s.k s.q = true ∧ s.q ≤ 65536 := fun s hs => by
  obtain ⟨_, rfl⟩ := List.mem_replicate.1 hs
  exact ⟨rfl, by simp [St.zero]⟩
theorem zeros_rightD {N : Nat} (h1 : 1 ≤ N) (h2 : N ≤ 64) : rightD N N (List.replicate N St.zero) (List.replicate N St.zero) = true := by
  unfold rightD
  rw [decide_eq_true ⟨h1, h2, rfl⟩, Bool.true_and, List.all_eq_true]
  intro s hs
  rcases List.mem_append.1 hs with hs | hs <;> exact (zeros_right s hs).1
/-- what stands in no stream of a new disk -/
theorem dread_new (A0 A1 : Option Addr) (N c0 c1 : Nat) (row i : Int) (w : World) (h0 : RowV w A0 N c0 (List.replicate N St.zero)) (h1 : RowV w A1 N c1 (List.replicate N St.zero)) (hN : N ≤ 64) :
    Calls Try.prog 44 #[.agg #[.int .u64 0, .slice A0 N c0, .slice A1 N c1], .int .i64 row, .int .i64 i] w fun e w' => ∃ (S : Option Addr) (c : Nat), e = .returned (.tuple #[.slice S 0 c, .int .i64 (if isB row i N N = true then 0 else 1)]) ∧ Ext w w' := by
  cases hb : isB row i N N with
  | false => exact (dread_no 0 A0 A1 N c0 N c1 row i w hb).mono fun e w' ⟨he, hx⟩ => ⟨none, 0, he, hx⟩
  | true =>
    by_cases hr0 : row = 0
    · subst hr0
      have hi : 0 ≤ i ∧ i < (N : Int) := by simpa [isB] using hb
      obtain ⟨k, rfl⟩ := Int.eq_ofNat_of_zero_le hi.1
      exact (dread_row0 0 A0 A1 N c0 N c1 k _ St.zero w h0 (zeros_at (by omega)) (by omega) (by omega) (by simp [St.zero])).mono fun e w' ⟨S, c, he, _, hx⟩ => ⟨S, c, he, hx⟩
    · by_cases hr1 : row = 1
      · subst hr1
        have hi : 0 ≤ i ∧ i < (N : Int) := by simpa [isB] using hb
        obtain ⟨k, rfl⟩ := Int.eq_ofNat_of_zero_le hi.1
        exact (dread_row1 0 A0 A1 N c0 N c1 k _ St.zero w h1 (zeros_at (by omega)) (by omega) (by omega) (by simp [St.zero])).mono fun e w' ⟨S, c, he, _, hx⟩ => ⟨S, c, he, hx⟩
      · simp [isB, hr0, hr1] at hb
theorem is_cases (row i : Int) (N : Nat) : (row = 0 ∧ 0 ≤ i ∧ i < (N : Int) ∧ isB row i N N = true) ∨ (row = 1 ∧ 0 ≤ i ∧ i < (N : Int) ∧ isB row i N N = true) ∨ (row = 0 ∧ 0 ≤ i ∧ ¬ i < (N : Int) ∧ isB row i N N = false) ∨ (row = 1 ∧ 0 ≤ i ∧ ¬ i < (N : Int) ∧ isB row i N N = false) ∨
    (row = 0 ∧ ¬ 0 ≤ i ∧ isB row i N N = false) ∨ (row = 1 ∧ ¬ 0 ≤ i ∧ isB row i N N = false) ∨ (¬ row = 0 ∧ ¬ row = 1 ∧ isB row i N N = false) := by
  by_cases h0 : row = 0
  · subst h0
    by_cases hi : 0 ≤ i
    · by_cases hn : i < (N : Int)
      · exact .inl ⟨rfl, hi, hn, by simp [isB, hi, hn]⟩
      · exact .inr (.inr (.inl ⟨rfl, hi, hn, by simp [isB, hn]⟩))
    · exact .inr (.inr (.inr (.inr (.inl ⟨rfl, hi, by simp [isB, hi]⟩))))
  · by_cases h1 : row = 1
    · subst h1
      by_cases hi : 0 ≤ i
      · by_cases hn : i < (N : Int)
        · exact .inr (.inl ⟨rfl, hi, hn, by simp [isB, hi, hn]⟩)
        · exact .inr (.inr (.inr (.inl ⟨rfl, hi, hn, by simp [isB, hn]⟩)))
      · exact .inr (.inr (.inr (.inr (.inr (.inl ⟨rfl, hi, by simp [isB, hi]⟩)))))
    · exact .inr (.inr (.inr (.inr (.inr (.inr ⟨h0, h1, by simp [isB, h0, h1]⟩)))))
set_option maxRecDepth 100000 in
set_option maxHeartbeats 8000000 in
theorem dnew_walk (tn : Nat) (row i : Int) (M : Option Addr) (nM cM : Nat) (ms : List Int) (w : World) (ht : tn < 256) (hM : IntsV w M nM cM ms) :
    Calls Try.prog 14 #[.agg #[.int .u8 tn, .int .i64 row, .int .i64 i, .slice M nM cM]] w fun e w' => e = .returned (.bool true) ∧ Ext w w' := by
  have ht1 : IntKind.i64.wrap (tn : Int) = (tn : Int) := by rw [IntKind.wrap_i64]; omega
  have ht2 : Int.tmod (tn : Int) 64 = (tn : Int) % 64 := by rw [Int.tmod_eq_emod_of_nonneg (by omega)]
  have ht3 : IntKind.i64.wrap ((tn : Int) % 64) = (tn : Int) % 64 := by rw [IntKind.wrap_i64]; omega
  have hN : (1 : Int) + (tn : Int) % 64 = ((1 + tn % 64 : Nat) : Int) := by omega
  have hN1 : 1 ≤ 1 + tn % 64 ∧ 1 + tn % 64 ≤ 64 := by omega
  generalize 1 + tn % 64 = N at *
  obtain ⟨hN1, hN2⟩ := hN1
  have hNw : IntKind.i64.wrap (N : Int) = (N : Int) := by rw [IntKind.wrap_i64]; omega
  have hW : Ext w (w.alloc (.cells #[.int .u8 tn, .int .i64 row, .int .i64 i, .slice M nM cM] 104)) := (Below.refl _ w).alloc (Nat.le_refl _) _
  go_enter Try.func14, Try.ntmps14
  go_wp2_with fail
  refine (shown7_any _).mono ?_
  rintro e w1 ⟨rfl, hx1⟩
  replace hW := hW.trans hx1
  clear hx1
  go_wp2_with fail
  refine (dnew_yes N _ hN1 hN2).mono ?_
  rintro e w2 ⟨A0, A1, c0, c1, rfl, hr0, hr1, hx2⟩
  replace hW := hW.trans hx2
  clear hx2
  go_upto_region 8 with (fail)
  have hwa : Ext w2 (w2.alloc (.cells #[.int .u64 0, .slice A0 N c0, .slice A1 N c1] 69)) := (Below.refl _ w2).alloc (Nat.le_refl _) _
  have hda : (w2.alloc (.cells #[.int .u64 0, .slice A0 N c0, .slice A1 N c1] 69)).heap[w2.heap.size]? = some (.cells #[.int .u64 0, .slice A0 N c0, .slice A1 N c1] 69 (0, 0)) := heap_alloc_new w2 _
  replace hr0 := hr0.ext hwa
  replace hr1 := hr1.ext hwa
  replace hW := hW.trans hwa
  generalize w2.alloc (.cells #[.int .u64 0, .slice A0 N c0, .slice A1 N c1] 69) = W2 at *
  generalize w2.heap.size = ga at *
  clear hwa ht1 ht2 ht3 hN
  have a0 : W2.cell? ⟨ga, 0, none⟩ = some (.int .u64 0) := by simp [World.cell?, hda]
  have a1 : W2.cell? ⟨ga, 1, none⟩ = some (.slice A0 N c0) := by simp [World.cell?, hda]
  have a2 : W2.cell? ⟨ga, 2, none⟩ = some (.slice A1 N c1) := by simp [World.cell?, hda]
  go_wp2_with fail
  refine (dread_new A0 A1 N c0 c1 row i _ hr0 hr1 hN2).mono ?_
  rintro e w3 ⟨S, cS, rfl, hx3⟩
  replace hr0 := hr0.ext hx3
  replace hr1 := hr1.ext hx3
  replace hda := heap_ext hda hx3
  replace hW := hW.trans hx3
  clear hx3 a0 a1 a2
  have hX : ∀ wx, Ext w3 wx → wx.cell? ⟨ga, 0, none⟩ = some (.int .u64 0) ∧ wx.cell? ⟨ga, 1, none⟩ = some (.slice A0 N c0) ∧ wx.cell? ⟨ga, 2, none⟩ = some (.slice A1 N c1) ∧ Ext w3 wx := fun wx hx =>
    ⟨hx.cell (by simp [World.cell?, hda]), hx.cell (by simp [World.cell?, hda]), hx.cell (by simp [World.cell?, hda]), hx⟩
  have hrA := fun wx (h : Ext w3 wx) => dright_any 0 A0 A1 N c0 N c1 _ _ wx (hr0.ext h) (hr1.ext h)
  simp only [zeros_rightD hN1 hN2] at hrA
  have hrow := fun (v1 v2 : Value) (wx : World) => drow_any 0 v1 v2 wx (by omega)
  simp only [show ((0 : Nat) : Int) = 0 from rfl, show ((0 % 2 : Nat) : Int) = 0 from rfl] at hrow
  clear hda
  rcases is_cases row i N with ⟨rfl, h1, h2, hb⟩ | ⟨rfl, h1, h2, hb⟩ | ⟨rfl, h1, h2, hb⟩ | ⟨rfl, h1, h2, hb⟩ | ⟨rfl, h1, hb⟩ | ⟨rfl, h1, hb⟩ | ⟨h1, h2, hb⟩
  all_goals
    rw [hb]
    simp only [if_true, Bool.false_eq_true, if_false]
    clear hb
    go_upto_region 10 with (fail)
    by_cases h200 : (200 : Int) < (nM : Int)
    · go_wp2
      go_ret
      exact ⟨rfl, hW⟩
    · go_upto_region 12 with (fail)
      refine' wp_region_sure ⟨((some 58, [], none) :: (some 59, [0], none) :: (some 60, [1], some (1, true)) :: (some 61, [2, 1], some (1, true)) :: (some 62, [1, 3], none) :: (some 63, [4, 1], none) :: (some 64, [5], some (5, true)) :: (some 65, [6, 5, 5], some (5, true)) :: (some 66, [5, 7], none) :: (some 67, [8, 7], none) :: (some 68, [9], some (9, true)) :: (some 69, [10, 9, 9], some (9, true)) :: (some 70, [11, 9], some (9, true)) :: (some 71, [9, 12], none) :: (some 72, [13, 11], none) :: (some 73, [14], some (14, true)) :: (some 74, [15, 14], some (14, true)) :: (some 75, [16, 14], some (14, true)) :: (some 76, [14, 17], none) :: (some 77, [18, 14], none) :: (some 78, [19], some (19, true)) :: (some 79, [20, 19], some (19, true)) :: (some 80, [19], some (19, true)) :: (some 81, [21, 22, 19], some (19, true)) :: (some 82, [19, 23], none) :: (some 83, [24, 19], none) :: (some 84, [25], some (25, true)) :: (some 85, [25], some (25, true)) :: (some 86, [26, 27, 25, 25], some (25, true)) :: (some 87, [25], some (25, true)) :: (some 88, [28, 29, 28, 25], some (25, true)) :: (some 89, [25, 30], none) :: (some 2, [31, 30, 0, 1, 2, 3, 4, 5, 6, 7, 8, 9, 10, 11, 12, 13, 14, 15, 16, 17, 18, 19, 20, 21, 22, 23, 24, 25, 26, 27, 28, 29, 30, 31], none) :: []), (0 :: 1 :: 3 :: 7 :: 15 :: 31 :: 63 :: 127 :: 255 :: 511 :: 1023 :: 2047 :: 4095 :: 8191 :: 16383 :: 32767 :: 65535 :: 131071 :: 262143 :: 524287 :: 1048575 :: 2097151 :: 1048575 :: 8388607 :: 16777215 :: 33554431 :: 67108863 :: 67108863 :: 268435455 :: 67108863 :: 1073741823 :: 2147483647 :: 4294967295 :: []), (true :: true :: true :: true :: true :: true :: true :: true :: true :: true :: true :: true :: true :: true :: true :: true :: true :: true :: true :: true :: true :: true :: true :: true :: true :: true :: true :: true :: false :: true :: true :: true :: []), [], 0⟩ 32 90 ((0, 58) :: (1, 59) :: (2, 60) :: (3, 61) :: (4, 62) :: (5, 63) :: (6, 64) :: (7, 65) :: (8, 66) :: (9, 67) :: (10, 68) :: (11, 69) :: (12, 70) :: (13, 71) :: (14, 72) :: (15, 73) :: (16, 74) :: (17, 75) :: (18, 76) :: (19, 77) :: (20, 78) :: (21, 79) :: (22, 80) :: (23, 81) :: (24, 82) :: (25, 83) :: (26, 84) :: (27, 85) :: (28, 86) :: (29, 87) :: (30, 88) :: (31, 89) :: []) ((0, 58) :: (1, 59) :: (2, 60) :: (3, 61) :: (4, 62) :: (5, 63) :: (6, 64) :: (7, 65) :: (8, 66) :: (9, 67) :: (10, 68) :: (11, 69) :: (12, 70) :: (13, 71) :: (14, 72) :: (15, 73) :: (16, 74) :: (17, 75) :: (18, 76) :: (19, 77) :: (20, 78) :: (21, 79) :: (22, 80) :: (23, 81) :: (24, 82) :: (25, 83) :: (26, 84) :: (27, 85) :: (28, 86) :: (29, 87) :: (30, 88) :: (31, 89) :: []) (.det _ :: .det _ :: .det _ :: .det _ :: .det _ :: .det _ :: .det _ :: .det _ :: .det _ :: .det _ :: .det _ :: .det _ :: .det _ :: .det _ :: .det _ :: .det _ :: .det _ :: .det _ :: .det _ :: .det _ :: .det _ :: .det _ :: .det _ :: .det _ :: .det _ :: .det _ :: .det _ :: .det _ :: Good.of (fun v w => ∃ L0 L1 : List St, DkV w v 0 N N L0 L1 ∧ L0.map St.key = (List.replicate N St.zero).map St.key ∧ L1.map St.key = (List.replicate N St.zero).map St.key) (fun v w w' h hx => let ⟨L0, L1, hd, h0, h1⟩ := h; ⟨L0, L1, hd.ext hx, h0, h1⟩) :: .det _ :: .det _ :: .det _ :: []) (by kernel_rfl) (by kernel_rfl) (by kernel_rfl) rfl (by kernel_rfl) (by kernel_rfl) rfl ?hone ?hend
      case hone =>
        intro CS frS VS hCS ha hV
        have qs6 := slot_val (t := 6) ha rfl
        simp only [List.getElem_toArray, List.getElem_cons_succ, List.getElem_cons_zero] at qs6
        have qs7 := slot_val (t := 7) ha rfl
        simp only [List.getElem_toArray, List.getElem_cons_succ, List.getElem_cons_zero] at qs7
        have qs9 := slot_val (t := 9) ha rfl
        simp only [List.getElem_toArray, List.getElem_cons_succ, List.getElem_cons_zero] at qs9
        have qs10 := slot_val (t := 10) ha rfl
        simp only [List.getElem_toArray, List.getElem_cons_succ, List.getElem_cons_zero] at qs10
        have qs11 := slot_val (t := 11) ha rfl
        simp only [List.getElem_toArray, List.getElem_cons_succ, List.getElem_cons_zero] at qs11
        have qs12 := slot_val (t := 12) ha rfl
        simp only [List.getElem_toArray, List.getElem_cons_succ, List.getElem_cons_zero] at qs12
        have qs13 := slot_val (t := 13) ha rfl
        simp only [List.getElem_toArray, List.getElem_cons_succ, List.getElem_cons_zero] at qs13
        have HCS := Lib.hid hCS
        have HVS := Lib.hid hV
        clear ha hCS hV
        -- 0: slot 58 := Op.move t7
        refine sure_det (js := []) (ts := [7]) (gd := none) (place_at HVS.out (k := 0) rfl) (by rw [HCS.out]; kernel_rfl) ?_ ?_
        · intro wx hx ρ hρ hs hf
          have hρc := hρ.const
          have hρf := hρ.func
          obtain ⟨fx7, -⟩ := hf
          rw [qs7] at fx7
          clear hs
          clear HCS HVS qs6 qs7 qs9 qs10 qs11 qs12 qs13
          refine run_plain ?_
          refine op_move rfl fx7 ?_
          exact detK.mk
        -- 1: slot 59 := Op.move t58
        refine sure_det (js := [(0, 58)]) (ts := []) (gd := none) (place_at HVS.out (k := 1) rfl) (by rw [HCS.out]; kernel_rfl) ?_ ?_
        · intro wx hx ρ hρ hs hf
          have hρc := hρ.const
          have hρf := hρ.func
          obtain ⟨sn0, -⟩ := hs
          rw [place_at HVS.out (k := 0) rfl] at sn0
          replace sn0 : ρ (.tmp 58) = _ := sn0
          clear hf
          clear HCS HVS qs6 qs7 qs9 qs10 qs11 qs12 qs13
          refine run_plain ?_
          refine op_move rfl sn0 ?_
          exact detK.mk
        -- 2: slot 60 := Op.move t10
        refine sure_det (js := [(1, 59)]) (ts := [10]) (gd := (some (59, true))) (place_at HVS.out (k := 2) rfl) (by rw [HCS.out]; kernel_rfl) ?_ ?_
        · intro wx hx ρ hρ hs hf
          have hρc := hρ.const
          have hρf := hρ.func
          obtain ⟨sn1, -⟩ := hs
          obtain ⟨fx10, -⟩ := hf
          rw [qs10] at fx10
          rw [place_at HVS.out (k := 1) rfl] at sn1
          replace sn1 : ρ (.tmp 59) = _ := sn1
          clear HCS HVS qs6 qs7 qs9 qs10 qs11 qs12 qs13
          first
            | (refine run_passed sn1 ?_
               exact detK.mk)
            | (refine run_guarded sn1 ?_
               refine op_move rfl fx10 ?_
               exact detK.mk)
        -- 3: slot 61 := Op.binOp BinOp.eql 31 t60 ((i64 0)) 31
        refine sure_det (js := [(2, 60), (1, 59)]) (ts := []) (gd := (some (59, true))) (place_at HVS.out (k := 3) rfl) (by rw [HCS.out]; kernel_rfl) ?_ ?_
        · intro wx hx ρ hρ hs hf
          have hρc := hρ.const
          have hρf := hρ.func
          obtain ⟨sn2, sn1, -⟩ := hs
          rw [place_at HVS.out (k := 2) rfl] at sn2
          replace sn2 : ρ (.tmp 60) = _ := sn2
          rw [place_at HVS.out (k := 1) rfl] at sn1
          replace sn1 : ρ (.tmp 59) = _ := sn1
          clear hf
          clear HCS HVS qs6 qs7 qs9 qs10 qs11 qs12 qs13
          first
            | (refine run_passed sn1 ?_
               exact detK.mk)
            | (refine run_guarded sn1 ?_
               unfold runs
               go_simp
               exact detK.mk)
        -- 4: slot 62 := Op.pick t59 t61 ((Value.bool false))
        refine sure_det (js := [(1, 59), (3, 61)]) (ts := []) (gd := none) (place_at HVS.out (k := 4) rfl) (by rw [HCS.out]; kernel_rfl) ?_ ?_
        · intro wx hx ρ hρ hs hf
          have hρc := hρ.const
          have hρf := hρ.func
          obtain ⟨sn1, sn3, -⟩ := hs
          rw [place_at HVS.out (k := 1) rfl] at sn1
          replace sn1 : ρ (.tmp 59) = _ := sn1
          rw [place_at HVS.out (k := 3) rfl] at sn3
          replace sn3 : ρ (.tmp 61) = _ := sn3
          clear hf
          clear HCS HVS qs6 qs7 qs9 qs10 qs11 qs12 qs13
          refine run_plain ?_
          first | refine op_pick_t rfl sn1 sn3 ?_ | refine op_pick_f rfl sn1 (hρ.const _) ?_
          exact detK.mk
        -- 5: slot 63 := Op.move t62
        refine sure_det (js := [(4, 62)]) (ts := []) (gd := none) (place_at HVS.out (k := 5) rfl) (by rw [HCS.out]; kernel_rfl) ?_ ?_
        · intro wx hx ρ hρ hs hf
          have hρc := hρ.const
          have hρf := hρ.func
          obtain ⟨sn4, -⟩ := hs
          rw [place_at HVS.out (k := 4) rfl] at sn4
          replace sn4 : ρ (.tmp 62) = _ := sn4
          clear hf
          clear HCS HVS qs6 qs7 qs9 qs10 qs11 qs12 qs13
          refine run_plain ?_
          refine op_move rfl sn4 ?_
          exact detK.mk
        -- 6: slot 64 := Op.load 69 t9
        refine sure_det (js := [(5, 63)]) (ts := [9]) (gd := (some (63, true))) (place_at HVS.out (k := 6) rfl) (by rw [HCS.out]; kernel_rfl) ?_ ?_
        · intro wx hx ρ hρ hs hf
          have hρc := hρ.const
          have hρf := hρ.func
          obtain ⟨sn5, -⟩ := hs
          obtain ⟨fx9, -⟩ := hf
          rw [qs9] at fx9
          rw [place_at HVS.out (k := 5) rfl] at sn5
          replace sn5 : ρ (.tmp 63) = _ := sn5
          clear HCS HVS qs6 qs7 qs9 qs10 qs11 qs12 qs13
          first
            | (refine run_passed sn5 ?_
               exact detK.mk)
            | (refine run_guarded sn5 ?_
               obtain ⟨p0, p1, p2, -⟩ := hX wx hx.drawn
               unfold runs
               go_simp
               exact detK.mk)
        -- 7: slot 65 := Op.call { call ( 39), args := #[t64], argTypes := #[69] }
        refine sure_det (js := [(6, 64), (5, 63)]) (ts := []) (gd := (some (63, true))) (place_at HVS.out (k := 7) rfl) (by rw [HCS.out]; kernel_rfl) ?_ ?_
        · intro wx hx ρ hρ hs hf
          have hρc := hρ.const
          have hρf := hρ.func
          obtain ⟨sn6, sn5, -⟩ := hs
          rw [place_at HVS.out (k := 6) rfl] at sn6
          replace sn6 : ρ (.tmp 64) = _ := sn6
          rw [place_at HVS.out (k := 5) rfl] at sn5
          replace sn5 : ρ (.tmp 63) = _ := sn5
          clear hf
          clear HCS HVS qs6 qs7 qs9 qs10 qs11 qs12 qs13
          first
            | (refine run_passed sn5 ?_
               exact detK.mk)
            | (refine run_guarded sn5 ?_
               refine op_call rfl hρ Try.call39 (map_one sn6) ?_
               first | (refine Calls.mono (hrA _ (hX _ hx.drawn).2.2.2) ?_; rintro e w' ⟨rfl, hx5⟩; refine ⟨_, rfl, ?_⟩; exact detK.ext hx5) | (refine Calls.mono (hrow _ _ _) ?_; rintro e w' ⟨rfl, hx5⟩; refine ⟨_, rfl, ?_⟩; exact detK.ext hx5))
        -- 8: slot 66 := Op.pick t63 t65 ((Value.bool false))
        refine sure_det (js := [(5, 63), (7, 65)]) (ts := []) (gd := none) (place_at HVS.out (k := 8) rfl) (by rw [HCS.out]; kernel_rfl) ?_ ?_
        · intro wx hx ρ hρ hs hf
          have hρc := hρ.const
          have hρf := hρ.func
          obtain ⟨sn5, sn7, -⟩ := hs
          rw [place_at HVS.out (k := 5) rfl] at sn5
          replace sn5 : ρ (.tmp 63) = _ := sn5
          rw [place_at HVS.out (k := 7) rfl] at sn7
          replace sn7 : ρ (.tmp 65) = _ := sn7
          clear hf
          clear HCS HVS qs6 qs7 qs9 qs10 qs11 qs12 qs13
          refine run_plain ?_
          first | refine op_pick_t rfl sn5 sn7 ?_ | refine op_pick_f rfl sn5 (hρ.const _) ?_
          exact detK.mk
        -- 9: slot 67 := Op.move t66
        refine sure_det (js := [(8, 66)]) (ts := []) (gd := none) (place_at HVS.out (k := 9) rfl) (by rw [HCS.out]; kernel_rfl) ?_ ?_
        · intro wx hx ρ hρ hs hf
          have hρc := hρ.const
          have hρf := hρ.func
          obtain ⟨sn8, -⟩ := hs
          rw [place_at HVS.out (k := 8) rfl] at sn8
          replace sn8 : ρ (.tmp 66) = _ := sn8
          clear hf
          clear HCS HVS qs6 qs7 qs9 qs10 qs11 qs12 qs13
          refine run_plain ?_
          refine op_move rfl sn8 ?_
          exact detK.mk
        -- 10: slot 68 := Op.load 69 t9
        refine sure_det (js := [(9, 67)]) (ts := [9]) (gd := (some (67, true))) (place_at HVS.out (k := 10) rfl) (by rw [HCS.out]; kernel_rfl) ?_ ?_
        · intro wx hx ρ hρ hs hf
          have hρc := hρ.const
          have hρf := hρ.func
          obtain ⟨sn9, -⟩ := hs
          obtain ⟨fx9, -⟩ := hf
          rw [qs9] at fx9
          rw [place_at HVS.out (k := 9) rfl] at sn9
          replace sn9 : ρ (.tmp 67) = _ := sn9
          clear HCS HVS qs6 qs7 qs9 qs10 qs11 qs12 qs13
          first
            | (refine run_passed sn9 ?_
               exact detK.mk)
            | (refine run_guarded sn9 ?_
               obtain ⟨p0, p1, p2, -⟩ := hX wx hx.drawn
               unfold runs
               go_simp
               exact detK.mk)
        -- 11: slot 69 := Op.call { call ( 48), args := #[t68], argTypes := #[69] }
        refine sure_det (js := [(10, 68), (9, 67)]) (ts := []) (gd := (some (67, true))) (place_at HVS.out (k := 11) rfl) (by rw [HCS.out]; kernel_rfl) ?_ ?_
        · intro wx hx ρ hρ hs hf
          have hρc := hρ.const
          have hρf := hρ.func
          obtain ⟨sn10, sn9, -⟩ := hs
          rw [place_at HVS.out (k := 10) rfl] at sn10
          replace sn10 : ρ (.tmp 68) = _ := sn10
          rw [place_at HVS.out (k := 9) rfl] at sn9
          replace sn9 : ρ (.tmp 67) = _ := sn9
          clear hf
          clear HCS HVS qs6 qs7 qs9 qs10 qs11 qs12 qs13
          first
            | (refine run_passed sn9 ?_
               exact detK.mk)
            | (refine run_guarded sn9 ?_
               refine op_call rfl hρ Try.call48 (map_one sn10) ?_
               first | (refine Calls.mono (hrA _ (hX _ hx.drawn).2.2.2) ?_; rintro e w' ⟨rfl, hx5⟩; refine ⟨_, rfl, ?_⟩; exact detK.ext hx5) | (refine Calls.mono (hrow _ _ _) ?_; rintro e w' ⟨rfl, hx5⟩; refine ⟨_, rfl, ?_⟩; exact detK.ext hx5))
        -- 12: slot 70 := Op.binOp BinOp.eql 3 t69 ((i64 0)) 3
        refine sure_det (js := [(11, 69), (9, 67)]) (ts := []) (gd := (some (67, true))) (place_at HVS.out (k := 12) rfl) (by rw [HCS.out]; kernel_rfl) ?_ ?_
        · intro wx hx ρ hρ hs hf
          have hρc := hρ.const
          have hρf := hρ.func
          obtain ⟨sn11, sn9, -⟩ := hs
          rw [place_at HVS.out (k := 11) rfl] at sn11
          replace sn11 : ρ (.tmp 69) = _ := sn11
          rw [place_at HVS.out (k := 9) rfl] at sn9
          replace sn9 : ρ (.tmp 67) = _ := sn9
          clear hf
          clear HCS HVS qs6 qs7 qs9 qs10 qs11 qs12 qs13
          first
            | (refine run_passed sn9 ?_
               exact detK.mk)
            | (refine run_guarded sn9 ?_
               unfold runs
               go_simp
               exact detK.mk)
        -- 13: slot 71 := Op.pick t67 t70 ((Value.bool false))
        refine sure_det (js := [(9, 67), (12, 70)]) (ts := []) (gd := none) (place_at HVS.out (k := 13) rfl) (by rw [HCS.out]; kernel_rfl) ?_ ?_
        · intro wx hx ρ hρ hs hf
          have hρc := hρ.const
          have hρf := hρ.func
          obtain ⟨sn9, sn12, -⟩ := hs
          rw [place_at HVS.out (k := 9) rfl] at sn9
          replace sn9 : ρ (.tmp 67) = _ := sn9
          rw [place_at HVS.out (k := 12) rfl] at sn12
          replace sn12 : ρ (.tmp 70) = _ := sn12
          clear hf
          clear HCS HVS qs6 qs7 qs9 qs10 qs11 qs12 qs13
          refine run_plain ?_
          first | refine op_pick_t rfl sn9 sn12 ?_ | refine op_pick_f rfl sn9 (hρ.const _) ?_
          exact detK.mk
        -- 14: slot 72 := Op.move t71
        refine sure_det (js := [(13, 71)]) (ts := []) (gd := none) (place_at HVS.out (k := 14) rfl) (by rw [HCS.out]; kernel_rfl) ?_ ?_
        · intro wx hx ρ hρ hs hf
          have hρc := hρ.const
          have hρf := hρ.func
          obtain ⟨sn13, -⟩ := hs
          rw [place_at HVS.out (k := 13) rfl] at sn13
          replace sn13 : ρ (.tmp 71) = _ := sn13
          clear hf
          clear HCS HVS qs6 qs7 qs9 qs10 qs11 qs12 qs13
          refine run_plain ?_
          refine op_move rfl sn13 ?_
          exact detK.mk
        -- 15: slot 73 := Op.move t11
        refine sure_det (js := [(14, 72)]) (ts := [11]) (gd := (some (72, true))) (place_at HVS.out (k := 15) rfl) (by rw [HCS.out]; kernel_rfl) ?_ ?_
        · intro wx hx ρ hρ hs hf
          have hρc := hρ.const
          have hρf := hρ.func
          obtain ⟨sn14, -⟩ := hs
          obtain ⟨fx11, -⟩ := hf
          rw [qs11] at fx11
          rw [place_at HVS.out (k := 14) rfl] at sn14
          replace sn14 : ρ (.tmp 72) = _ := sn14
          clear HCS HVS qs6 qs7 qs9 qs10 qs11 qs12 qs13
          first
            | (refine run_passed sn14 ?_
               exact detK.mk)
            | (refine run_guarded sn14 ?_
               refine op_move rfl fx11 ?_
               exact detK.mk)
        -- 16: slot 74 := Op.call { len, args := #[t73], argTypes := #[27] }
        refine sure_det (js := [(15, 73), (14, 72)]) (ts := []) (gd := (some (72, true))) (place_at HVS.out (k := 16) rfl) (by rw [HCS.out]; kernel_rfl) ?_ ?_
        · intro wx hx ρ hρ hs hf
          have hρc := hρ.const
          have hρf := hρ.func
          obtain ⟨sn15, sn14, -⟩ := hs
          rw [place_at HVS.out (k := 15) rfl] at sn15
          replace sn15 : ρ (.tmp 73) = _ := sn15
          rw [place_at HVS.out (k := 14) rfl] at sn14
          replace sn14 : ρ (.tmp 72) = _ := sn14
          clear hf
          clear HCS HVS qs6 qs7 qs9 qs10 qs11 qs12 qs13
          first
            | (refine run_passed sn14 ?_
               exact detK.mk)
            | (refine run_guarded sn14 ?_
               unfold runs
               go_simp
               exact detK.mk)
        -- 17: slot 75 := Op.binOp BinOp.eql 3 t74 ((i64 0)) 3
        refine sure_det (js := [(16, 74), (14, 72)]) (ts := []) (gd := (some (72, true))) (place_at HVS.out (k := 17) rfl) (by rw [HCS.out]; kernel_rfl) ?_ ?_
        · intro wx hx ρ hρ hs hf
          have hρc := hρ.const
          have hρf := hρ.func
          obtain ⟨sn16, sn14, -⟩ := hs
          rw [place_at HVS.out (k := 16) rfl] at sn16
          replace sn16 : ρ (.tmp 74) = _ := sn16
          rw [place_at HVS.out (k := 14) rfl] at sn14
          replace sn14 : ρ (.tmp 72) = _ := sn14
          clear hf
          clear HCS HVS qs6 qs7 qs9 qs10 qs11 qs12 qs13
          first
            | (refine run_passed sn14 ?_
               exact detK.mk)
            | (refine run_guarded sn14 ?_
               unfold runs
               go_simp
               exact detK.mk)
        -- 18: slot 76 := Op.pick t72 t75 ((Value.bool false))
        refine sure_det (js := [(14, 72), (17, 75)]) (ts := []) (gd := none) (place_at HVS.out (k := 18) rfl) (by rw [HCS.out]; kernel_rfl) ?_ ?_
        · intro wx hx ρ hρ hs hf
          have hρc := hρ.const
          have hρf := hρ.func
          obtain ⟨sn14, sn17, -⟩ := hs
          rw [place_at HVS.out (k := 14) rfl] at sn14
          replace sn14 : ρ (.tmp 72) = _ := sn14
          rw [place_at HVS.out (k := 17) rfl] at sn17
          replace sn17 : ρ (.tmp 75) = _ := sn17
          clear hf
          clear HCS HVS qs6 qs7 qs9 qs10 qs11 qs12 qs13
          refine run_plain ?_
          first | refine op_pick_t rfl sn14 sn17 ?_ | refine op_pick_f rfl sn14 (hρ.const _) ?_
          exact detK.mk
        -- 19: slot 77 := Op.move t76
        refine sure_det (js := [(18, 76)]) (ts := []) (gd := none) (place_at HVS.out (k := 19) rfl) (by rw [HCS.out]; kernel_rfl) ?_ ?_
        · intro wx hx ρ hρ hs hf
          have hρc := hρ.const
          have hρf := hρ.func
          obtain ⟨sn18, -⟩ := hs
          rw [place_at HVS.out (k := 18) rfl] at sn18
          replace sn18 : ρ (.tmp 76) = _ := sn18
          clear hf
          clear HCS HVS qs6 qs7 qs9 qs10 qs11 qs12 qs13
          refine run_plain ?_
          refine op_move rfl sn18 ?_
          exact detK.mk
        -- 20: slot 78 := Op.move t12
        refine sure_det (js := [(19, 77)]) (ts := [12]) (gd := (some (77, true))) (place_at HVS.out (k := 20) rfl) (by rw [HCS.out]; kernel_rfl) ?_ ?_
        · intro wx hx ρ hρ hs hf
          have hρc := hρ.const
          have hρf := hρ.func
          obtain ⟨sn19, -⟩ := hs
          obtain ⟨fx12, -⟩ := hf
          rw [qs12] at fx12
          rw [place_at HVS.out (k := 19) rfl] at sn19
          replace sn19 : ρ (.tmp 77) = _ := sn19
          clear HCS HVS qs6 qs7 qs9 qs10 qs11 qs12 qs13
          first
            | (refine run_passed sn19 ?_
               exact detK.mk)
            | (refine run_guarded sn19 ?_
               refine op_move rfl fx12 ?_
               exact detK.mk)
        -- 21: slot 79 := Op.binOp BinOp.eql 31 t78 ((i64 0)) 31
        refine sure_det (js := [(20, 78), (19, 77)]) (ts := []) (gd := (some (77, true))) (place_at HVS.out (k := 21) rfl) (by rw [HCS.out]; kernel_rfl) ?_ ?_
        · intro wx hx ρ hρ hs hf
          have hρc := hρ.const
          have hρf := hρ.func
          obtain ⟨sn20, sn19, -⟩ := hs
          rw [place_at HVS.out (k := 20) rfl] at sn20
          replace sn20 : ρ (.tmp 78) = _ := sn20
          rw [place_at HVS.out (k := 19) rfl] at sn19
          replace sn19 : ρ (.tmp 77) = _ := sn19
          clear hf
          clear HCS HVS qs6 qs7 qs9 qs10 qs11 qs12 qs13
          first
            | (refine run_passed sn19 ?_
               exact detK.mk)
            | (refine run_guarded sn19 ?_
               unfold runs
               go_simp
               exact detK.mk)
        -- 22: slot 80 := Op.move t13
        refine sure_det (js := [(19, 77)]) (ts := [13]) (gd := (some (77, true))) (place_at HVS.out (k := 22) rfl) (by rw [HCS.out]; kernel_rfl) ?_ ?_
        · intro wx hx ρ hρ hs hf
          have hρc := hρ.const
          have hρf := hρ.func
          obtain ⟨sn19, -⟩ := hs
          obtain ⟨fx13, -⟩ := hf
          rw [qs13] at fx13
          rw [place_at HVS.out (k := 19) rfl] at sn19
          replace sn19 : ρ (.tmp 77) = _ := sn19
          clear HCS HVS qs6 qs7 qs9 qs10 qs11 qs12 qs13
          first
            | (refine run_passed sn19 ?_
               exact detK.mk)
            | (refine run_guarded sn19 ?_
               refine op_move rfl fx13 ?_
               exact detK.mk)
        -- 23: slot 81 := Op.binOp BinOp.eql 4 t79 t80 4
        refine sure_det (js := [(21, 79), (22, 80), (19, 77)]) (ts := []) (gd := (some (77, true))) (place_at HVS.out (k := 23) rfl) (by rw [HCS.out]; kernel_rfl) ?_ ?_
        · intro wx hx ρ hρ hs hf
          have hρc := hρ.const
          have hρf := hρ.func
          obtain ⟨sn21, sn22, sn19, -⟩ := hs
          rw [place_at HVS.out (k := 21) rfl] at sn21
          replace sn21 : ρ (.tmp 79) = _ := sn21
          rw [place_at HVS.out (k := 22) rfl] at sn22
          replace sn22 : ρ (.tmp 80) = _ := sn22
          rw [place_at HVS.out (k := 19) rfl] at sn19
          replace sn19 : ρ (.tmp 77) = _ := sn19
          clear hf
          clear HCS HVS qs6 qs7 qs9 qs10 qs11 qs12 qs13
          first
            | (refine run_passed sn19 ?_
               exact detK.mk)
            | (refine run_guarded sn19 ?_
               unfold runs
               go_simp
               exact detK.mk)
        -- 24: slot 82 := Op.pick t77 t81 ((Value.bool false))
        refine sure_det (js := [(19, 77), (23, 81)]) (ts := []) (gd := none) (place_at HVS.out (k := 24) rfl) (by rw [HCS.out]; kernel_rfl) ?_ ?_
        · intro wx hx ρ hρ hs hf
          have hρc := hρ.const
          have hρf := hρ.func
          obtain ⟨sn19, sn23, -⟩ := hs
          rw [place_at HVS.out (k := 19) rfl] at sn19
          replace sn19 : ρ (.tmp 77) = _ := sn19
          rw [place_at HVS.out (k := 23) rfl] at sn23
          replace sn23 : ρ (.tmp 81) = _ := sn23
          clear hf
          clear HCS HVS qs6 qs7 qs9 qs10 qs11 qs12 qs13
          refine run_plain ?_
          first | refine op_pick_t rfl sn19 sn23 ?_ | refine op_pick_f rfl sn19 (hρ.const _) ?_
          exact detK.mk
        -- 25: slot 83 := Op.move t82
        refine sure_det (js := [(24, 82)]) (ts := []) (gd := none) (place_at HVS.out (k := 25) rfl) (by rw [HCS.out]; kernel_rfl) ?_ ?_
        · intro wx hx ρ hρ hs hf
          have hρc := hρ.const
          have hρf := hρ.func
          obtain ⟨sn24, -⟩ := hs
          rw [place_at HVS.out (k := 24) rfl] at sn24
          replace sn24 : ρ (.tmp 82) = _ := sn24
          clear hf
          clear HCS HVS qs6 qs7 qs9 qs10 qs11 qs12 qs13
          refine run_plain ?_
          refine op_move rfl sn24 ?_
          exact detK.mk
        -- 26: slot 84 := Op.load 69 t9
        refine sure_det (js := [(25, 83)]) (ts := [9]) (gd := (some (83, true))) (place_at HVS.out (k := 26) rfl) (by rw [HCS.out]; kernel_rfl) ?_ ?_
        · intro wx hx ρ hρ hs hf
          have hρc := hρ.const
          have hρf := hρ.func
          obtain ⟨sn25, -⟩ := hs
          obtain ⟨fx9, -⟩ := hf
          rw [qs9] at fx9
          rw [place_at HVS.out (k := 25) rfl] at sn25
          replace sn25 : ρ (.tmp 83) = _ := sn25
          clear HCS HVS qs6 qs7 qs9 qs10 qs11 qs12 qs13
          first
            | (refine run_passed sn25 ?_
               exact detK.mk)
            | (refine run_guarded sn25 ?_
               obtain ⟨p0, p1, p2, -⟩ := hX wx hx.drawn
               unfold runs
               go_simp
               exact detK.mk)
        -- 27: slot 85 := Op.move t6
        refine sure_det (js := [(25, 83)]) (ts := [6]) (gd := (some (83, true))) (place_at HVS.out (k := 27) rfl) (by rw [HCS.out]; kernel_rfl) ?_ ?_
        · intro wx hx ρ hρ hs hf
          have hρc := hρ.const
          have hρf := hρ.func
          obtain ⟨sn25, -⟩ := hs
          obtain ⟨fx6, -⟩ := hf
          rw [qs6] at fx6
          rw [place_at HVS.out (k := 25) rfl] at sn25
          replace sn25 : ρ (.tmp 83) = _ := sn25
          clear HCS HVS qs6 qs7 qs9 qs10 qs11 qs12 qs13
          first
            | (refine run_passed sn25 ?_
               exact detK.mk)
            | (refine run_guarded sn25 ?_
               refine op_move rfl fx6 ?_
               exact detK.mk)
        -- 28: slot 86 := Op.call { call ( 49), args := #[t84, t85], argTypes := #[69, 32] }
        refine sure_op (js := [(26, 84), (27, 85), (25, 83)]) (ts := []) (gd := (some (83, true))) (place_at HVS.out (k := 28) rfl) (by rw [HCS.out]; kernel_rfl) ?_ ?_
        · intro wx hx ρ hρ hs hf
          have hρc := hρ.const
          have hρf := hρ.func
          obtain ⟨sn26, sn27, sn25, -⟩ := hs
          rw [place_at HVS.out (k := 26) rfl] at sn26
          replace sn26 : ρ (.tmp 84) = _ := sn26
          rw [place_at HVS.out (k := 27) rfl] at sn27
          replace sn27 : ρ (.tmp 85) = _ := sn27
          rw [place_at HVS.out (k := 25) rfl] at sn25
          replace sn25 : ρ (.tmp 83) = _ := sn25
          clear hf
          clear HCS HVS qs6 qs7 qs9 qs10 qs11 qs12 qs13
          refine run_guarded sn25 ?_
          refine op_call rfl hρ Try.call49 (map_two sn26 sn27) ?_
          refine Calls.mono (dcrash_any 0 A0 A1 N c0 N c1 _ _ M nM cM ms _ (hr0.ext hx.drawn) (hr1.ext hx.drawn) (by omega) (by omega) zeros_right zeros_right (hM.ext (hW.trans hx.drawn))) ?_
          rintro e w' ⟨B0, B1, b0, b1, L0, L1, rfl, hv0, hv1, hc0, hc1, hx5⟩
          exact ⟨_, rfl, hx5, L0, L1, ⟨⟨_, _, _, _, rfl, hv0, hv1⟩⟩, hc0.zeros, hc1.zeros⟩
        -- 29: slot 87 := Op.load 69 t9
        refine sure_det (js := [(25, 83)]) (ts := [9]) (gd := (some (83, true))) (place_at HVS.out (k := 29) rfl) (by rw [HCS.out]; kernel_rfl) ?_ ?_
        · intro wx hx ρ hρ hs hf
          have hρc := hρ.const
          have hρf := hρ.func
          obtain ⟨sn25, -⟩ := hs
          obtain ⟨fx9, -⟩ := hf
          rw [qs9] at fx9
          rw [place_at HVS.out (k := 25) rfl] at sn25
          replace sn25 : ρ (.tmp 83) = _ := sn25
          clear HCS HVS qs6 qs7 qs9 qs10 qs11 qs12 qs13
          first
            | (refine run_passed sn25 ?_
               exact detK.mk)
            | (refine run_guarded sn25 ?_
               obtain ⟨p0, p1, p2, -⟩ := hX wx hx.drawn
               unfold runs
               go_simp
               exact detK.mk)
        -- 30: slot 88 := Op.call { call ( 38), args := #[t86, t87], argTypes := #[69, 69] }
        refine sure_det (js := [(28, 86), (29, 87), (25, 83)]) (ts := []) (gd := (some (83, true))) (place_at HVS.out (k := 30) rfl) (by rw [HCS.out]; kernel_rfl) ?_ ?_
        · intro wx hx ρ hρ hs hf
          have hρc := hρ.const
          have hρf := hρ.func
          obtain ⟨sn28, sn29, sn25, -⟩ := hs
          rw [place_at HVS.out (k := 28) rfl] at sn28
          replace sn28 : ∃ L0 L1 : List St, DkV wx (ρ (.tmp 86)) 0 N N L0 L1 ∧ L0.map St.key = (List.replicate N St.zero).map St.key ∧ L1.map St.key = (List.replicate N St.zero).map St.key := sn28
          rw [place_at HVS.out (k := 29) rfl] at sn29
          replace sn29 : ρ (.tmp 87) = _ := sn29
          rw [place_at HVS.out (k := 25) rfl] at sn25
          replace sn25 : ρ (.tmp 83) = _ := sn25
          clear hf
          clear HCS HVS qs6 qs7 qs9 qs10 qs11 qs12 qs13
          first
            | (refine run_passed sn25 ?_
               exact detK.mk)
            | (refine run_guarded sn25 ?_
               obtain ⟨L0, L1, ⟨⟨B0, B1, b0, b1, e28, hB0, hB1⟩⟩, hk0, hk1⟩ := sn28
               refine op_call rfl hρ Try.call38 (map_two e28 sn29) ?_
               refine Calls.mono (dsame_yes 0 B0 B1 A0 A1 N b0 N b1 c0 c1 L0 L1 _ _ _ hB0 hB1 (hr0.ext hx.drawn) (hr1.ext hx.drawn) hk0 hk1) ?_
               rintro e w' ⟨rfl, hx5⟩
               refine ⟨_, rfl, ?_⟩
               exact detK.ext hx5)
        -- 31: slot 89 := Op.pick t83 t88 ((Value.bool false))
        refine sure_det (js := [(25, 83), (30, 88)]) (ts := []) (gd := none) (place_at HVS.out (k := 31) rfl) (by rw [HCS.out]; kernel_rfl) ?_ ?_
        · intro wx hx ρ hρ hs hf
          have hρc := hρ.const
          have hρf := hρ.func
          obtain ⟨sn25, sn30, -⟩ := hs
          rw [place_at HVS.out (k := 25) rfl] at sn25
          replace sn25 : ρ (.tmp 83) = _ := sn25
          rw [place_at HVS.out (k := 30) rfl] at sn30
          replace sn30 : ρ (.tmp 88) = _ := sn30
          clear hf
          clear HCS HVS qs6 qs7 qs9 qs10 qs11 qs12 qs13
          refine run_plain ?_
          first | refine op_pick_t rfl sn25 sn30 ?_ | refine op_pick_f rfl sn25 (hρ.const _) ?_
          exact detK.mk
        exact trivial
      case hend =>
        intro xs wx hx hg
        have gk0 : xs 0 = _ := goods_get hg (i := 0) (j := 0) (d := 58) rfl
        have gk1 : xs 1 = _ := goods_get hg (i := 1) (j := 1) (d := 59) rfl
        have gk2 : xs 2 = _ := goods_get hg (i := 2) (j := 2) (d := 60) rfl
        have gk3 : xs 3 = _ := goods_get hg (i := 3) (j := 3) (d := 61) rfl
        have gk4 : xs 4 = _ := goods_get hg (i := 4) (j := 4) (d := 62) rfl
        have gk5 : xs 5 = _ := goods_get hg (i := 5) (j := 5) (d := 63) rfl
        have gk6 : xs 6 = _ := goods_get hg (i := 6) (j := 6) (d := 64) rfl
        have gk7 : xs 7 = _ := goods_get hg (i := 7) (j := 7) (d := 65) rfl
        have gk8 : xs 8 = _ := goods_get hg (i := 8) (j := 8) (d := 66) rfl
        have gk9 : xs 9 = _ := goods_get hg (i := 9) (j := 9) (d := 67) rfl
        have gk10 : xs 10 = _ := goods_get hg (i := 10) (j := 10) (d := 68) rfl
        have gk11 : xs 11 = _ := goods_get hg (i := 11) (j := 11) (d := 69) rfl
        have gk12 : xs 12 = _ := goods_get hg (i := 12) (j := 12) (d := 70) rfl
        have gk13 : xs 13 = _ := goods_get hg (i := 13) (j := 13) (d := 71) rfl
        have gk14 : xs 14 = _ := goods_get hg (i := 14) (j := 14) (d := 72) rfl
        have gk15 : xs 15 = _ := goods_get hg (i := 15) (j := 15) (d := 73) rfl
        have gk16 : xs 16 = _ := goods_get hg (i := 16) (j := 16) (d := 74) rfl
        have gk17 : xs 17 = _ := goods_get hg (i := 17) (j := 17) (d := 75) rfl
        have gk18 : xs 18 = _ := goods_get hg (i := 18) (j := 18) (d := 76) rfl
        have gk19 : xs 19 = _ := goods_get hg (i := 19) (j := 19) (d := 77) rfl
        have gk20 : xs 20 = _ := goods_get hg (i := 20) (j := 20) (d := 78) rfl
        have gk21 : xs 21 = _ := goods_get hg (i := 21) (j := 21) (d := 79) rfl
        have gk22 : xs 22 = _ := goods_get hg (i := 22) (j := 22) (d := 80) rfl
        have gk23 : xs 23 = _ := goods_get hg (i := 23) (j := 23) (d := 81) rfl
        have gk24 : xs 24 = _ := goods_get hg (i := 24) (j := 24) (d := 82) rfl
        have gk25 : xs 25 = _ := goods_get hg (i := 25) (j := 25) (d := 83) rfl
        have gk26 : xs 26 = _ := goods_get hg (i := 26) (j := 26) (d := 84) rfl
        have gk27 : xs 27 = _ := goods_get hg (i := 27) (j := 27) (d := 85) rfl
        have gk28 : ∃ L0 L1 : List St, DkV wx (xs 28) 0 N N L0 L1 ∧ L0.map St.key = (List.replicate N St.zero).map St.key ∧ L1.map St.key = (List.replicate N St.zero).map St.key := goods_get hg (i := 28) (j := 28) (d := 86) rfl
        have gk29 : xs 29 = _ := goods_get hg (i := 29) (j := 29) (d := 87) rfl
        have gk30 : xs 30 = _ := goods_get hg (i := 30) (j := 30) (d := 88) rfl
        have gk31 : xs 31 = _ := goods_get hg (i := 31) (j := 31) (d := 89) rfl
        clear hg
        simp only [putAll, gk0, gk1, gk2, gk3, gk4, gk5, gk6, gk7, gk8, gk9, gk10, gk11, gk12, gk13, gk14, gk15, gk16, gk17, gk18, gk19, gk20, gk21, gk22, gk23, gk24, gk25, gk26, gk27, gk29, gk30, gk31]
        clear gk0 gk1 gk2 gk3 gk4 gk5 gk6 gk7 gk8 gk9 gk10 gk11 gk12 gk13 gk14 gk15 gk16 gk17 gk18 gk19 gk20 gk21 gk22 gk23 gk24 gk25 gk26 gk27 gk29 gk30 gk31
        generalize xs 28 = vx28 at gk28 ⊢
        clear xs
        simp only [Act.put, List.setIfInBounds_toArray, List.set_cons_zero, List.set_cons_succ, List.drop_succ_cons, List.drop_zero]
        go_wp2
        go_ret
        exact ⟨rfl, hW.trans hx.drawn⟩
section
variable {H : Type} {enc : TypeId × Value → H} {w : World} {base : Nat}
theorem cellsU8D : Try.prog.cellsOf 5 = 1 := by kernel_rfl
theorem cellsIntsD : Try.prog.cellsOf 32 = 1 := by kernel_rfl
set_option maxRecDepth 100000 in
theorem open_intsv {fuel : Nat} {cs : List Value} {x : DataW H × List MemPlace} (h : DataW.trod enc Try.prog w base (fun _ => true) true fuel 32 cs = some x) :
    ∃ A n c ms, cs = [.slice A n c] ∧ IntsV w A n c ms := by
  rcases open_ints Try.underlying32 Try.underlying3 cellsIntS h with ⟨hcs, hx⟩ | ⟨a, len, cap, zs, hcs, hb, hl, hm, hz, hx, hcell, hwz⟩
  · exact ⟨none, 0, 0, [], hcs, ints_nil w⟩
  · have hzl : zs.length = cap := by simpa using hz
    refine ⟨some a, len, cap, zs.take len, hcs, by rw [List.length_take]; omega, hl, fun j z hj => ⟨a, rfl, ?_⟩⟩
    rw [List.getElem?_take] at hj
    split at hj
    · rw [hcell j (by omega)]
      simp [List.getD, hj]
    · cases hj
set_option maxRecDepth 100000 in
theorem open_dnew {b0 : Nat} {v : Value} {d : DataW H} {p : List MemPlace} (hv : Value.okWide Try.prog w .any b0 104 v) (h : DataW.Trod enc Try.prog w base (fun _ => true) true 104 v d p) :
    ∃ (t row i : Int) (M : Option Addr) (n c : Nat) (ms : List Int), v = .agg #[.int .u8 t, .int .i64 row, .int .i64 i, .slice M n c] ∧ (0 ≤ t ∧ t < 256) ∧ IntsV w M n c ms := by
  obtain ⟨l, xs, m, rfl, hl, rfl, _, _, hf⟩ := open_struct Try.underlying104 hv h
  rw [show Try.prog.cellsOf 104 = 4 by kernel_rfl] at hl
  match l, hl with
  | [x0, x1, x2, x3], _ =>
  obtain ⟨_, _, t0⟩ := hf 0 _ rfl
  obtain ⟨_, _, t1⟩ := hf 1 _ rfl
  obtain ⟨_, _, t2⟩ := hf 2 _ rfl
  obtain ⟨_, _, t3⟩ := hf 3 _ rfl
  obtain ⟨t, e0, _, w0⟩ := DataW.trod_int Try.underlying5 t0
  obtain ⟨row, e1, _, w1⟩ := DataW.trod_int Try.underlying3 t1
  obtain ⟨i, e2, _, w2⟩ := DataW.trod_int Try.underlying3 t2
  obtain ⟨M, n, c, ms, e3, hM⟩ := open_intsv t3
  simp [cellsU8D, cellsIntS, cellsIntsD] at e0 e1 e2 e3
  subst e0 e1 e2 e3
  exact ⟨t, row, i, M, n, c, ms, rfl, wf_u8 w0, hM⟩
end
set_option maxRecDepth 100000 in
theorem DiskNew_lifted (os : Os) (started : os.Started) (H : Type) (enc : TypeId × Value → H) :
    ReturnsInHanded {} Try.checked os 14 .any (Rows.diskNewSpec.pre6 enc Try.prog Try.f14 Rows.diskNewRow.domain false) (Rows.diskNewSpec.post enc Try.prog Try.f14 false true false false) := by
  refine law_row os started H enc Rows.diskNewSpec rfl (fun ds h => by
    match ds, h with
    | [_], _ => rfl) (by kernel_rfl) Try.func14 rfl
    (by rw [Try.params14]; intro t ht; simp at ht; subst ht; exact ⟨by kernel_rfl, of_decide_eq_true (by kernel_rfl)⟩)
    (ChangeSpec.witness6 (enc := enc) (C := Try.checked) false ⟨#[], #[.agg #[.int .u8 0, .int .i64 0, .int .i64 0, .slice none 0 0]], []⟩ 8 (by kernel_rfl) (by kernel_rfl) (by kernel_rfl) (by kernel_rfl)) ?_
  intro W base args ds ps hval hA hlt
  rw [Try.params14] at hA hval
  obtain ⟨v0, d0, rfl, rfl, h0⟩ := trodAll_one hA
  obtain ⟨t, row, i, M, n, c, ms, rfl, ht, hM⟩ := open_dnew (hval 0 _ v0 rfl rfl) h0
  obtain ⟨tn, rfl⟩ := Int.eq_ofNat_of_zero_le ht.1
  exact dnew_walk tn row i M n c ms W (by omega) hM
theorem DiskNew_holds : Rows.DiskNewSaid :=
  OpenClaim.holds_of_wide 14 Try.f14 rfl rfl rfl rfl rfl rfl rfl ⟨rfl, rfl, rfl, rfl, rfl⟩ rfl rfl rfl rfl rfl (by kernel_rfl) Try.func14 (by kernel_rfl)
    (of_decide_eq_true (by kernel_rfl)) (by unfold Func.isWrapper; rw [if_neg (of_decide_eq_false (by kernel_rfl))]; exact ⟨rfl, rfl⟩)
    (fun os started H enc _ => DiskNew_lifted os started H enc)
#print axioms DiskNew_holds
end Go.Proofs.Ythgcpfofdbdkpaa
