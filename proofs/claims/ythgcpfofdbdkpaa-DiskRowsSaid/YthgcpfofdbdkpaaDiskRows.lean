/- Proved: the law DiskRows (a row that is cleared has as many streams, all empty, and the other one stays; what is appended to it then is all that it has) returns true at every input and turns none of its arguments. No condition. -/
import Derived.Test.YthgcpfofdbdkpaaDiskRef
import Derived.Test.YthgcpfofdbdkpaaDiskOpen
namespace Go.Proofs.Ythgcpfofdbdkpaa
open Go.ChangeShapes Go.WideShapes Go.ChangeAt Go.RowKit

theorem rightD_true {n0 n1 : Nat} {l0 l1 : List St} (h : rightD n0 n1 l0 l1 = true) : 1 ≤ n0 ∧ n0 ≤ 64 ∧ n1 = n0 ∧ (∀ s ∈ l0, rightB s.k s.q = true) ∧ (∀ s ∈ l1, rightB s.k s.q = true) := by
  simp only [rightD, Bool.and_eq_true, decide_eq_true_eq, List.all_eq_true] at h
  exact ⟨h.1.1, h.1.2.1, h.1.2.2, fun s hs => h.2 s (by simp [hs]), fun s hs => h.2 s (by simp [hs])⟩
set_option maxRecDepth 100000 in
set_option maxHeartbeats 8000000 in
theorem drows_walk (R : Int) (A0 A1 : Option Addr) (n0 c0 n1 c1 : Nat) (l0 l1 : List St) (rn iN : Nat) (B : Option Addr) (m cb : Nat) (bs : List UInt8) (w : World) (h0 : RowV w A0 n0 c0 l0) (h1 : RowV w A1 n1 c1 l1) (hrn : rn < 256) (hin : iN < 256) (hB : BytesV w B m cb bs) :
    Calls Try.prog 13 #[.agg #[.int .u64 R, .slice A0 n0 c0, .slice A1 n1 c1, .int .u8 rn, .int .u8 iN, .slice B m cb]] w fun e w' => e = .returned (.bool true) ∧ Ext w w' := by
  have ht1 : IntKind.i64.wrap (rn : Int) = (rn : Int) := by rw [IntKind.wrap_i64]; omega
  have ht2 : Int.tmod (rn : Int) 2 = ((rn % 2 : Nat) : Int) := by rw [Int.tmod_eq_emod_of_nonneg (by omega)]; omega
  have hi1 : IntKind.i64.wrap (iN : Int) = (iN : Int) := by rw [IntKind.wrap_i64]; omega
  have hi2 : Int.tmod (iN : Int) (n0 : Int) = ((iN % n0 : Nat) : Int) := by rw [Int.tmod_eq_emod_of_nonneg (by omega)]; omega
  have hmw : IntKind.i64.wrap (m : Int) = (m : Int) := by have := Nat.le_trans hB.le hB.cap; simp only [maxLen] at this; rw [IntKind.wrap_i64]; omega
  go_enter Try.func13, Try.ntmps13
  go_upto_region 5 with (fail)
  obtain ⟨hW, -, hda⟩ := two_boxes7 w (.cells #[.int .u64 R, .slice A0 n0 c0, .slice A1 n1 c1, .int .u8 rn, .int .u8 iN, .slice B m cb] 101) (.cells #[.int .u64 R, .slice A0 n0 c0, .slice A1 n1 c1] 69)
  generalize (w.alloc (.cells #[.int .u64 R, .slice A0 n0 c0, .slice A1 n1 c1, .int .u8 rn, .int .u8 iN, .slice B m cb] 101)).alloc (.cells #[.int .u64 R, .slice A0 n0 c0, .slice A1 n1 c1] 69) = W at *
  generalize w.heap.size + 1 = ga at *
  go_wp2_with fail
  refine (shown7_any _).mono ?_
  rintro e w1 ⟨rfl, hx1⟩
  replace hW := hW.trans hx1
  replace hda := heap_ext hda hx1
  clear hx1
  have a0 : w1.cell? ⟨ga, 0, none⟩ = some (.int .u64 R) := by simp [World.cell?, hda]
  have a1 : w1.cell? ⟨ga, 1, none⟩ = some (.slice A0 n0 c0) := by simp [World.cell?, hda]
  have a2 : w1.cell? ⟨ga, 2, none⟩ = some (.slice A1 n1 c1) := by simp [World.cell?, hda]
  go_wp2_with fail
  refine (few7_any R A0 A1 n0 c0 n1 c1 l0 l1 _ (h0.ext hW) (h1.ext hW)).mono ?_
  rintro e w2 ⟨⟨b1, rfl, hf⟩, hx2⟩
  replace hW := hW.trans hx2
  replace hda := heap_ext hda hx2
  clear hx2 a0 a1 a2
  cases b1 with
  | false =>
    go_wp2
    go_ret
    exact ⟨rfl, hW⟩
  | true =>
    obtain ⟨hf0, hf1⟩ := hf rfl
    have a0 : w2.cell? ⟨ga, 0, none⟩ = some (.int .u64 R) := by simp [World.cell?, hda]
    have a1 : w2.cell? ⟨ga, 1, none⟩ = some (.slice A0 n0 c0) := by simp [World.cell?, hda]
    have a2 : w2.cell? ⟨ga, 2, none⟩ = some (.slice A1 n1 c1) := by simp [World.cell?, hda]
    go_wp2_with fail
    refine (rright7_any R A0 A1 n0 c0 n1 c1 l0 l1 _ (h0.ext hW) (h1.ext hW)).mono ?_
    rintro e w3 ⟨rfl, hx3⟩
    replace hW := hW.trans hx3
    replace hda := heap_ext hda hx3
    clear hx3 a0 a1 a2
    cases hr : rightD n0 n1 l0 l1 with
    | false =>
      go_wp2
      go_ret
      exact ⟨rfl, hW⟩
    | true =>
      obtain ⟨g1, g2, rfl, hr0, hr1⟩ := rightD_true hr
      by_cases hm : (300 : Int) < (m : Int)
      · go_wp2
        go_ret
        exact ⟨rfl, hW⟩
      have hn0 : ¬ (n1 : Int) = 0 := by omega
      have hk : iN % n1 < n1 := Nat.mod_lt _ (by omega)
      generalize iN % n1 = k at *
      have hkw : IntKind.i64.wrap (k : Int) = (k : Int) := by rw [IntKind.wrap_i64]; omega
      have hki : (k : Int) < (n1 : Int) := by omega
      clear hr hf
      rcases Nat.mod_two_eq_zero_or_one rn with hr2 | hr2
      · rw [hr2] at ht2
        have hwo : IntKind.i64.wrap (1 : Int) = 1 := by rw [IntKind.wrap_i64]; omega
        have a0 : w3.cell? ⟨ga, 0, none⟩ = some (.int .u64 R) := by simp [World.cell?, hda]
        have a1 : w3.cell? ⟨ga, 1, none⟩ = some (.slice A0 n1 c0) := by simp [World.cell?, hda]
        have a2 : w3.cell? ⟨ga, 2, none⟩ = some (.slice A1 n1 c1) := by simp [World.cell?, hda]
        go_wp2_with fail
        refine (dclear_row0 R A0 A1 n1 c0 n1 c1 _ (by omega) (by omega) (by omega)).mono ?_
        rintro e w4 ⟨C, cc, rfl, hC, hx4⟩
        replace hda := heap_ext hda hx4
        replace hW := hW.trans hx4
        clear hx4 a0 a1 a2
        go_upto_region 12 with (fail)
        have hwa : Ext w4 (w4.alloc (.cells #[.int .u64 R, .slice C n1 cc, .slice A1 n1 c1] 69)) := (Below.refl _ w4).alloc (Nat.le_refl _) _
        have hdc : (w4.alloc (.cells #[.int .u64 R, .slice C n1 cc, .slice A1 n1 c1] 69)).heap[w4.heap.size]? = some (.cells #[.int .u64 R, .slice C n1 cc, .slice A1 n1 c1] 69 (0, 0)) := heap_alloc_new w4 _
        replace hda := heap_ext hda hwa
        replace hW := hW.trans hwa
        replace hC := hC.ext hwa
        generalize w4.alloc (.cells #[.int .u64 R, .slice C n1 cc, .slice A1 n1 c1] 69) = W4 at *
        generalize w4.heap.size = gc at *
        clear hwa
        have hX : ∀ wx, Ext W4 wx → wx.cell? ⟨ga, 2, none⟩ = some (.slice A1 n1 c1) ∧ wx.cell? ⟨gc, 1, none⟩ = some (.slice C n1 cc) ∧ wx.cell? ⟨gc, 2, none⟩ = some (.slice A1 n1 c1) ∧ Ext W4 wx := fun wx hx =>
          ⟨hx.cell (by simp [World.cell?, hda]), hx.cell (by simp [World.cell?, hdc]), hx.cell (by simp [World.cell?, hdc]), hx⟩
        have hall := fun wx (h : Ext W4 wx) => all_yes A1 A1 n1 c1 c1 l1 l1 wx (h1.ext (hW.trans h)) (h1.ext (hW.trans h)) rfl
        refine' wp_region_sure_all ⟨((some 58, [], none) :: (some 59, [0], none) :: (some 60, [1], none) :: (some 61, [2], some (2, false)) :: (some 62, [2], some (2, false)) :: (some 63, [4, 3, 2], some (2, false)) :: (some 64, [5, 2], some (2, false)) :: (some 65, [6, 2], some (2, false)) :: (some 66, [2], some (2, false)) :: (some 67, [7, 8, 2], some (2, false)) :: (some 68, [2, 9], none) :: (some 69, [10, 2], none) :: (some 70, [11], some (11, false)) :: (some 71, [12, 11], some (11, false)) :: (some 72, [11], some (11, false)) :: (some 73, [14, 13, 11], some (11, false)) :: (some 74, [15, 11], some (11, false)) :: (some 75, [11], some (11, false)) :: (some 76, [17, 11], some (11, false)) :: (some 77, [11], some (11, false)) :: (some 78, [19, 18, 11], some (11, false)) :: (some 79, [20, 11], some (11, false)) :: (some 80, [16, 21, 11, 11], some (11, false)) :: (some 81, [22, 11], some (11, false)) :: (some 82, [11, 23], none) :: []), (0 :: 1 :: 3 :: 7 :: 7 :: 31 :: 63 :: 127 :: 7 :: 511 :: 1023 :: 2047 :: 4095 :: 8191 :: 4095 :: 32767 :: 65535 :: 4095 :: 135167 :: 4095 :: 921599 :: 1970175 :: 4194303 :: 8388607 :: 16777215 :: []), (true :: true :: true :: true :: true :: true :: true :: true :: true :: true :: true :: true :: true :: true :: true :: true :: true :: true :: true :: true :: true :: true :: true :: true :: true :: []), [], 0⟩ 25 147 ((0, 58) :: (1, 59) :: (2, 60) :: (3, 61) :: (4, 62) :: (5, 63) :: (6, 64) :: (7, 65) :: (8, 66) :: (9, 67) :: (10, 68) :: (11, 69) :: (12, 70) :: (13, 71) :: (14, 72) :: (15, 73) :: (16, 74) :: (17, 75) :: (18, 76) :: (19, 77) :: (20, 78) :: (21, 79) :: (22, 80) :: (23, 81) :: (24, 82) :: []) ((0, 58) :: (1, 59) :: (2, 60) :: (3, 61) :: (4, 62) :: (5, 63) :: (6, 64) :: (7, 65) :: (8, 66) :: (9, 67) :: (10, 68) :: (11, 69) :: (12, 70) :: (13, 71) :: (14, 72) :: (15, 73) :: (16, 74) :: (17, 75) :: (18, 76) :: (19, 77) :: (20, 78) :: (21, 79) :: (22, 80) :: (23, 81) :: (24, 82) :: []) (.det _ :: .det _ :: .det _ :: .det _ :: .det _ :: .det _ :: .det _ :: .det _ :: .det _ :: .det _ :: .det _ :: .det _ :: .det _ :: .det _ :: .det _ :: .det _ :: .det _ :: .det _ :: .det _ :: .det _ :: .det _ :: .det _ :: .det _ :: .det _ :: .det _ :: []) (by kernel_rfl) (by kernel_rfl) (by kernel_rfl) rfl (by kernel_rfl) (by kernel_rfl) rfl (by kernel_rfl) ?hone ?hend
        case hone =>
          intro CS frS VS hCS ha hV
          have qs3 := slot_val (t := 3) ha rfl
          simp only [List.getElem_toArray, List.getElem_cons_succ, List.getElem_cons_zero] at qs3
          have qs8 := slot_val (t := 8) ha rfl
          simp only [List.getElem_toArray, List.getElem_cons_succ, List.getElem_cons_zero] at qs8
          have qs9 := slot_val (t := 9) ha rfl
          simp only [List.getElem_toArray, List.getElem_cons_succ, List.getElem_cons_zero] at qs9
          have qs11 := slot_val (t := 11) ha rfl
          simp only [List.getElem_toArray, List.getElem_cons_succ, List.getElem_cons_zero] at qs11
          have qs12 := slot_val (t := 12) ha rfl
          simp only [List.getElem_toArray, List.getElem_cons_succ, List.getElem_cons_zero] at qs12
          have HCS := Lib.hid hCS
          have HVS := Lib.hid hV
          clear ha hCS hV
          -- 0: slot 58 := Op.move t12
          refine sure_det (js := []) (ts := [12]) (gd := none) (place_at HVS.out (k := 0) rfl) (by rw [HCS.out]; kernel_rfl) ?_ ?_
          · intro wx hx ρ hρ hs hf
            have hρc := hρ.const
            have hρf := hρ.func
            obtain ⟨fx12, -⟩ := hf
            rw [qs12] at fx12
            clear hs
            clear HCS HVS qs3 qs8 qs9 qs11 qs12
            refine run_plain ?_
            refine op_move rfl fx12 ?_
            exact detK.mk
          -- 1: slot 59 := Op.binOp BinOp.neq 31 t58 ((i64 0)) 31
          refine sure_det (js := [(0, 58)]) (ts := []) (gd := none) (place_at HVS.out (k := 1) rfl) (by rw [HCS.out]; kernel_rfl) ?_ ?_
          · intro wx hx ρ hρ hs hf
            have hρc := hρ.const
            have hρf := hρ.func
            obtain ⟨sn0, -⟩ := hs
            rw [place_at HVS.out (k := 0) rfl] at sn0
            replace sn0 : ρ (.tmp 58) = _ := sn0
            clear hf
            clear HCS HVS qs3 qs8 qs9 qs11 qs12
            refine run_plain ?_
            unfold runs
            go_simp
            exact detK.mk
          -- 2: slot 60 := Op.move t59
          refine sure_det (js := [(1, 59)]) (ts := []) (gd := none) (place_at HVS.out (k := 2) rfl) (by rw [HCS.out]; kernel_rfl) ?_ ?_
          · intro wx hx ρ hρ hs hf
            have hρc := hρ.const
            have hρf := hρ.func
            obtain ⟨sn1, -⟩ := hs
            rw [place_at HVS.out (k := 1) rfl] at sn1
            replace sn1 : ρ (.tmp 59) = _ := sn1
            clear hf
            clear HCS HVS qs3 qs8 qs9 qs11 qs12
            refine run_plain ?_
            refine op_move rfl sn1 ?_
            exact detK.mk
          -- 3: slot 61 := Op.move t8
          refine sure_det (js := [(2, 60)]) (ts := [8]) (gd := (some (60, false))) (place_at HVS.out (k := 3) rfl) (by rw [HCS.out]; kernel_rfl) ?_ ?_
          · intro wx hx ρ hρ hs hf
            have hρc := hρ.const
            have hρf := hρ.func
            obtain ⟨sn2, -⟩ := hs
            obtain ⟨fx8, -⟩ := hf
            rw [qs8] at fx8
            rw [place_at HVS.out (k := 2) rfl] at sn2
            replace sn2 : ρ (.tmp 60) = _ := sn2
            clear HCS HVS qs3 qs8 qs9 qs11 qs12
            first
              | (refine run_passed sn2 ?_
                 exact detK.mk)
              | (refine run_guarded sn2 ?_
                 refine op_move rfl fx8 ?_
                 exact detK.mk)
          -- 4: slot 62 := Op.fieldAddr 69 t11 1
          refine sure_det (js := [(2, 60)]) (ts := [11]) (gd := (some (60, false))) (place_at HVS.out (k := 4) rfl) (by rw [HCS.out]; kernel_rfl) ?_ ?_
          · intro wx hx ρ hρ hs hf
            have hρc := hρ.const
            have hρf := hρ.func
            obtain ⟨sn2, -⟩ := hs
            obtain ⟨fx11, -⟩ := hf
            rw [qs11] at fx11
            rw [place_at HVS.out (k := 2) rfl] at sn2
            replace sn2 : ρ (.tmp 60) = _ := sn2
            clear HCS HVS qs3 qs8 qs9 qs11 qs12
            first
              | (refine run_passed sn2 ?_
                 exact detK.mk)
              | (refine run_guarded sn2 ?_
                 unfold runs
                 go_simp
                 exact detK.mk)
          -- 5: slot 63 := Op.indexAddr 67 t62 t61
          refine sure_det (js := [(4, 62), (3, 61), (2, 60)]) (ts := []) (gd := (some (60, false))) (place_at HVS.out (k := 5) rfl) (by rw [HCS.out]; kernel_rfl) ?_ ?_
          · intro wx hx ρ hρ hs hf
            have hρc := hρ.const
            have hρf := hρ.func
            obtain ⟨sn4, sn3, sn2, -⟩ := hs
            rw [place_at HVS.out (k := 4) rfl] at sn4
            replace sn4 : ρ (.tmp 62) = _ := sn4
            rw [place_at HVS.out (k := 3) rfl] at sn3
            replace sn3 : ρ (.tmp 61) = _ := sn3
            rw [place_at HVS.out (k := 2) rfl] at sn2
            replace sn2 : ρ (.tmp 60) = _ := sn2
            clear hf
            clear HCS HVS qs3 qs8 qs9 qs11 qs12
            first
              | (refine run_passed sn2 ?_
                 exact detK.mk)
              | (refine run_guarded sn2 ?_
                 unfold runs
                 go_simp
                 exact detK.mk)
          -- 6: slot 64 := Op.load 66 t63
          refine sure_det (js := [(5, 63), (2, 60)]) (ts := []) (gd := (some (60, false))) (place_at HVS.out (k := 6) rfl) (by rw [HCS.out]; kernel_rfl) ?_ ?_
          · intro wx hx ρ hρ hs hf
            have hρc := hρ.const
            have hρf := hρ.func
            obtain ⟨sn5, sn2, -⟩ := hs
            rw [place_at HVS.out (k := 5) rfl] at sn5
            replace sn5 : ρ (.tmp 63) = _ := sn5
            rw [place_at HVS.out (k := 2) rfl] at sn2
            replace sn2 : ρ (.tmp 60) = _ := sn2
            clear hf
            clear HCS HVS qs3 qs8 qs9 qs11 qs12
            first
              | (refine run_passed sn2 ?_
                 exact detK.mk)
              | (refine run_guarded sn2 ?_
                 obtain ⟨p0, p1, p2, -⟩ := hX wx hx.drawn
                 unfold runs
                 go_simp
                 exact detK.mk)
          -- 7: slot 65 := Op.call { len, args := #[t64], argTypes := #[66] }
          refine sure_det (js := [(6, 64), (2, 60)]) (ts := []) (gd := (some (60, false))) (place_at HVS.out (k := 7) rfl) (by rw [HCS.out]; kernel_rfl) ?_ ?_
          · intro wx hx ρ hρ hs hf
            have hρc := hρ.const
            have hρf := hρ.func
            obtain ⟨sn6, sn2, -⟩ := hs
            rw [place_at HVS.out (k := 6) rfl] at sn6
            replace sn6 : ρ (.tmp 64) = _ := sn6
            rw [place_at HVS.out (k := 2) rfl] at sn2
            replace sn2 : ρ (.tmp 60) = _ := sn2
            clear hf
            clear HCS HVS qs3 qs8 qs9 qs11 qs12
            first
              | (refine run_passed sn2 ?_
                 exact detK.mk)
              | (refine run_guarded sn2 ?_
                 unfold runs
                 go_simp
                 exact detK.mk)
          -- 8: slot 66 := Op.move t9
          refine sure_det (js := [(2, 60)]) (ts := [9]) (gd := (some (60, false))) (place_at HVS.out (k := 8) rfl) (by rw [HCS.out]; kernel_rfl) ?_ ?_
          · intro wx hx ρ hρ hs hf
            have hρc := hρ.const
            have hρf := hρ.func
            obtain ⟨sn2, -⟩ := hs
            obtain ⟨fx9, -⟩ := hf
            rw [qs9] at fx9
            rw [place_at HVS.out (k := 2) rfl] at sn2
            replace sn2 : ρ (.tmp 60) = _ := sn2
            clear HCS HVS qs3 qs8 qs9 qs11 qs12
            first
              | (refine run_passed sn2 ?_
                 exact detK.mk)
              | (refine run_guarded sn2 ?_
                 refine op_move rfl fx9 ?_
                 exact detK.mk)
          -- 9: slot 67 := Op.binOp BinOp.neq 3 t65 t66 3
          refine sure_det (js := [(7, 65), (8, 66), (2, 60)]) (ts := []) (gd := (some (60, false))) (place_at HVS.out (k := 9) rfl) (by rw [HCS.out]; kernel_rfl) ?_ ?_
          · intro wx hx ρ hρ hs hf
            have hρc := hρ.const
            have hρf := hρ.func
            obtain ⟨sn7, sn8, sn2, -⟩ := hs
            rw [place_at HVS.out (k := 7) rfl] at sn7
            replace sn7 : ρ (.tmp 65) = _ := sn7
            rw [place_at HVS.out (k := 8) rfl] at sn8
            replace sn8 : ρ (.tmp 66) = _ := sn8
            rw [place_at HVS.out (k := 2) rfl] at sn2
            replace sn2 : ρ (.tmp 60) = _ := sn2
            clear hf
            clear HCS HVS qs3 qs8 qs9 qs11 qs12
            first
              | (refine run_passed sn2 ?_
                 exact detK.mk)
              | (refine run_guarded sn2 ?_
                 unfold runs
                 go_simp
                 exact detK.mk)
          -- 10: slot 68 := Op.pick t60 ((Value.bool true)) t67
          refine sure_det (js := [(2, 60), (9, 67)]) (ts := []) (gd := none) (place_at HVS.out (k := 10) rfl) (by rw [HCS.out]; kernel_rfl) ?_ ?_
          · intro wx hx ρ hρ hs hf
            have hρc := hρ.const
            have hρf := hρ.func
            obtain ⟨sn2, sn9, -⟩ := hs
            rw [place_at HVS.out (k := 2) rfl] at sn2
            replace sn2 : ρ (.tmp 60) = _ := sn2
            rw [place_at HVS.out (k := 9) rfl] at sn9
            replace sn9 : ρ (.tmp 67) = _ := sn9
            clear hf
            clear HCS HVS qs3 qs8 qs9 qs11 qs12
            refine run_plain ?_
            first | refine op_pick_t rfl sn2 (hρ.const _) ?_ | refine op_pick_f rfl sn2 sn9 ?_
            exact detK.mk
          -- 11: slot 69 := Op.move t68
          refine sure_det (js := [(10, 68)]) (ts := []) (gd := none) (place_at HVS.out (k := 11) rfl) (by rw [HCS.out]; kernel_rfl) ?_ ?_
          · intro wx hx ρ hρ hs hf
            have hρc := hρ.const
            have hρf := hρ.func
            obtain ⟨sn10, -⟩ := hs
            rw [place_at HVS.out (k := 10) rfl] at sn10
            replace sn10 : ρ (.tmp 68) = _ := sn10
            clear hf
            clear HCS HVS qs3 qs8 qs9 qs11 qs12
            refine run_plain ?_
            refine op_move rfl sn10 ?_
            exact detK.mk
          -- 12: slot 70 := Op.move t8
          refine sure_det (js := [(11, 69)]) (ts := [8]) (gd := (some (69, false))) (place_at HVS.out (k := 12) rfl) (by rw [HCS.out]; kernel_rfl) ?_ ?_
          · intro wx hx ρ hρ hs hf
            have hρc := hρ.const
            have hρf := hρ.func
            obtain ⟨sn11, -⟩ := hs
            obtain ⟨fx8, -⟩ := hf
            rw [qs8] at fx8
            rw [place_at HVS.out (k := 11) rfl] at sn11
            replace sn11 : ρ (.tmp 69) = _ := sn11
            clear HCS HVS qs3 qs8 qs9 qs11 qs12
            first
              | (refine run_passed sn11 ?_
                 exact detK.mk)
              | (refine run_guarded sn11 ?_
                 refine op_move rfl fx8 ?_
                 exact detK.mk)
          -- 13: slot 71 := Op.binOp BinOp.sub 3 ((i64 1)) t70 3
          refine sure_det (js := [(12, 70), (11, 69)]) (ts := []) (gd := (some (69, false))) (place_at HVS.out (k := 13) rfl) (by rw [HCS.out]; kernel_rfl) ?_ ?_
          · intro wx hx ρ hρ hs hf
            have hρc := hρ.const
            have hρf := hρ.func
            obtain ⟨sn12, sn11, -⟩ := hs
            rw [place_at HVS.out (k := 12) rfl] at sn12
            replace sn12 : ρ (.tmp 70) = _ := sn12
            rw [place_at HVS.out (k := 11) rfl] at sn11
            replace sn11 : ρ (.tmp 69) = _ := sn11
            clear hf
            clear HCS HVS qs3 qs8 qs9 qs11 qs12
            first
              | (refine run_passed sn11 ?_
                 exact detK.mk)
              | (refine run_guarded sn11 ?_
                 unfold runs
                 go_simp
                 exact detK.mk)
          -- 14: slot 72 := Op.fieldAddr 69 t11 1
          refine sure_det (js := [(11, 69)]) (ts := [11]) (gd := (some (69, false))) (place_at HVS.out (k := 14) rfl) (by rw [HCS.out]; kernel_rfl) ?_ ?_
          · intro wx hx ρ hρ hs hf
            have hρc := hρ.const
            have hρf := hρ.func
            obtain ⟨sn11, -⟩ := hs
            obtain ⟨fx11, -⟩ := hf
            rw [qs11] at fx11
            rw [place_at HVS.out (k := 11) rfl] at sn11
            replace sn11 : ρ (.tmp 69) = _ := sn11
            clear HCS HVS qs3 qs8 qs9 qs11 qs12
            first
              | (refine run_passed sn11 ?_
                 exact detK.mk)
              | (refine run_guarded sn11 ?_
                 unfold runs
                 go_simp
                 exact detK.mk)
          -- 15: slot 73 := Op.indexAddr 67 t72 t71
          refine sure_det (js := [(14, 72), (13, 71), (11, 69)]) (ts := []) (gd := (some (69, false))) (place_at HVS.out (k := 15) rfl) (by rw [HCS.out]; kernel_rfl) ?_ ?_
          · intro wx hx ρ hρ hs hf
            have hρc := hρ.const
            have hρf := hρ.func
            obtain ⟨sn14, sn13, sn11, -⟩ := hs
            rw [place_at HVS.out (k := 14) rfl] at sn14
            replace sn14 : ρ (.tmp 72) = _ := sn14
            rw [place_at HVS.out (k := 13) rfl] at sn13
            replace sn13 : ρ (.tmp 71) = _ := sn13
            rw [place_at HVS.out (k := 11) rfl] at sn11
            replace sn11 : ρ (.tmp 69) = _ := sn11
            clear hf
            clear HCS HVS qs3 qs8 qs9 qs11 qs12
            first
              | (refine run_passed sn11 ?_
                 exact detK.mk)
              | (refine run_guarded sn11 ?_
                 unfold runs
                 go_simp
                 exact detK.mk)
          -- 16: slot 74 := Op.load 66 t73
          refine sure_det (js := [(15, 73), (11, 69)]) (ts := []) (gd := (some (69, false))) (place_at HVS.out (k := 16) rfl) (by rw [HCS.out]; kernel_rfl) ?_ ?_
          · intro wx hx ρ hρ hs hf
            have hρc := hρ.const
            have hρf := hρ.func
            obtain ⟨sn15, sn11, -⟩ := hs
            rw [place_at HVS.out (k := 15) rfl] at sn15
            replace sn15 : ρ (.tmp 73) = _ := sn15
            rw [place_at HVS.out (k := 11) rfl] at sn11
            replace sn11 : ρ (.tmp 69) = _ := sn11
            clear hf
            clear HCS HVS qs3 qs8 qs9 qs11 qs12
            first
              | (refine run_passed sn11 ?_
                 exact detK.mk)
              | (refine run_guarded sn11 ?_
                 obtain ⟨p0, p1, p2, -⟩ := hX wx hx.drawn
                 unfold runs
                 go_simp
                 exact detK.mk)
          -- 17: slot 75 := Op.move t8
          refine sure_det (js := [(11, 69)]) (ts := [8]) (gd := (some (69, false))) (place_at HVS.out (k := 17) rfl) (by rw [HCS.out]; kernel_rfl) ?_ ?_
          · intro wx hx ρ hρ hs hf
            have hρc := hρ.const
            have hρf := hρ.func
            obtain ⟨sn11, -⟩ := hs
            obtain ⟨fx8, -⟩ := hf
            rw [qs8] at fx8
            rw [place_at HVS.out (k := 11) rfl] at sn11
            replace sn11 : ρ (.tmp 69) = _ := sn11
            clear HCS HVS qs3 qs8 qs9 qs11 qs12
            first
              | (refine run_passed sn11 ?_
                 exact detK.mk)
              | (refine run_guarded sn11 ?_
                 refine op_move rfl fx8 ?_
                 exact detK.mk)
          -- 18: slot 76 := Op.binOp BinOp.sub 3 ((i64 1)) t75 3
          refine sure_det (js := [(17, 75), (11, 69)]) (ts := []) (gd := (some (69, false))) (place_at HVS.out (k := 18) rfl) (by rw [HCS.out]; kernel_rfl) ?_ ?_
          · intro wx hx ρ hρ hs hf
            have hρc := hρ.const
            have hρf := hρ.func
            obtain ⟨sn17, sn11, -⟩ := hs
            rw [place_at HVS.out (k := 17) rfl] at sn17
            replace sn17 : ρ (.tmp 75) = _ := sn17
            rw [place_at HVS.out (k := 11) rfl] at sn11
            replace sn11 : ρ (.tmp 69) = _ := sn11
            clear hf
            clear HCS HVS qs3 qs8 qs9 qs11 qs12
            first
              | (refine run_passed sn11 ?_
                 exact detK.mk)
              | (refine run_guarded sn11 ?_
                 unfold runs
                 go_simp
                 exact detK.mk)
          -- 19: slot 77 := Op.fieldAddr 69 t3 1
          refine sure_det (js := [(11, 69)]) (ts := [3]) (gd := (some (69, false))) (place_at HVS.out (k := 19) rfl) (by rw [HCS.out]; kernel_rfl) ?_ ?_
          · intro wx hx ρ hρ hs hf
            have hρc := hρ.const
            have hρf := hρ.func
            obtain ⟨sn11, -⟩ := hs
            obtain ⟨fx3, -⟩ := hf
            rw [qs3] at fx3
            rw [place_at HVS.out (k := 11) rfl] at sn11
            replace sn11 : ρ (.tmp 69) = _ := sn11
            clear HCS HVS qs3 qs8 qs9 qs11 qs12
            first
              | (refine run_passed sn11 ?_
                 exact detK.mk)
              | (refine run_guarded sn11 ?_
                 unfold runs
                 go_simp
                 exact detK.mk)
          -- 20: slot 78 := Op.indexAddr 67 t77 t76
          refine sure_det (js := [(19, 77), (18, 76), (11, 69)]) (ts := []) (gd := (some (69, false))) (place_at HVS.out (k := 20) rfl) (by rw [HCS.out]; kernel_rfl) ?_ ?_
          · intro wx hx ρ hρ hs hf
            have hρc := hρ.const
            have hρf := hρ.func
            obtain ⟨sn19, sn18, sn11, -⟩ := hs
            rw [place_at HVS.out (k := 19) rfl] at sn19
            replace sn19 : ρ (.tmp 77) = _ := sn19
            rw [place_at HVS.out (k := 18) rfl] at sn18
            replace sn18 : ρ (.tmp 76) = _ := sn18
            rw [place_at HVS.out (k := 11) rfl] at sn11
            replace sn11 : ρ (.tmp 69) = _ := sn11
            clear hf
            clear HCS HVS qs3 qs8 qs9 qs11 qs12
            first
              | (refine run_passed sn11 ?_
                 exact detK.mk)
              | (refine run_guarded sn11 ?_
                 unfold runs
                 go_simp
                 exact detK.mk)
          -- 21: slot 79 := Op.load 66 t78
          refine sure_det (js := [(20, 78), (11, 69)]) (ts := []) (gd := (some (69, false))) (place_at HVS.out (k := 21) rfl) (by rw [HCS.out]; kernel_rfl) ?_ ?_
          · intro wx hx ρ hρ hs hf
            have hρc := hρ.const
            have hρf := hρ.func
            obtain ⟨sn20, sn11, -⟩ := hs
            rw [place_at HVS.out (k := 20) rfl] at sn20
            replace sn20 : ρ (.tmp 78) = _ := sn20
            rw [place_at HVS.out (k := 11) rfl] at sn11
            replace sn11 : ρ (.tmp 69) = _ := sn11
            clear hf
            clear HCS HVS qs3 qs8 qs9 qs11 qs12
            first
              | (refine run_passed sn11 ?_
                 exact detK.mk)
              | (refine run_guarded sn11 ?_
                 obtain ⟨p0, p1, p2, -⟩ := hX wx hx.drawn
                 unfold runs
                 go_simp
                 exact detK.mk)
          -- 22: slot 80 := Op.call { call ( 53), args := #[t74, t79], argTypes := #[66, 66] }
          refine sure_det (js := [(16, 74), (21, 79), (11, 69)]) (ts := []) (gd := (some (69, false))) (place_at HVS.out (k := 22) rfl) (by rw [HCS.out]; kernel_rfl) ?_ ?_
          · intro wx hx ρ hρ hs hf
            have hρc := hρ.const
            have hρf := hρ.func
            obtain ⟨sn16, sn21, sn11, -⟩ := hs
            rw [place_at HVS.out (k := 16) rfl] at sn16
            replace sn16 : ρ (.tmp 74) = _ := sn16
            rw [place_at HVS.out (k := 21) rfl] at sn21
            replace sn21 : ρ (.tmp 79) = _ := sn21
            rw [place_at HVS.out (k := 11) rfl] at sn11
            replace sn11 : ρ (.tmp 69) = _ := sn11
            clear hf
            clear HCS HVS qs3 qs8 qs9 qs11 qs12
            first
              | (refine run_passed sn11 ?_
                 exact detK.mk)
              | (refine run_guarded sn11 ?_
                 refine op_call rfl hρ Try.call53 (map_two sn16 sn21) ?_
                 refine Calls.mono (hall _ (hX _ hx.drawn).2.2.2) ?_; rintro e w' ⟨rfl, hx5⟩; refine ⟨_, rfl, ?_⟩; exact detK.ext hx5)
          -- 23: slot 81 := Op.unOp UnOp.not 4 t80
          refine sure_det (js := [(22, 80), (11, 69)]) (ts := []) (gd := (some (69, false))) (place_at HVS.out (k := 23) rfl) (by rw [HCS.out]; kernel_rfl) ?_ ?_
          · intro wx hx ρ hρ hs hf
            have hρc := hρ.const
            have hρf := hρ.func
            obtain ⟨sn22, sn11, -⟩ := hs
            rw [place_at HVS.out (k := 22) rfl] at sn22
            replace sn22 : ρ (.tmp 80) = _ := sn22
            rw [place_at HVS.out (k := 11) rfl] at sn11
            replace sn11 : ρ (.tmp 69) = _ := sn11
            clear hf
            clear HCS HVS qs3 qs8 qs9 qs11 qs12
            first
              | (refine run_passed sn11 ?_
                 exact detK.mk)
              | (refine run_guarded sn11 ?_
                 unfold runs
                 go_simp
                 exact detK.mk)
          -- 24: slot 82 := Op.pick t69 ((Value.bool true)) t81
          refine sure_det (js := [(11, 69), (23, 81)]) (ts := []) (gd := none) (place_at HVS.out (k := 24) rfl) (by rw [HCS.out]; kernel_rfl) ?_ ?_
          · intro wx hx ρ hρ hs hf
            have hρc := hρ.const
            have hρf := hρ.func
            obtain ⟨sn11, sn23, -⟩ := hs
            rw [place_at HVS.out (k := 11) rfl] at sn11
            replace sn11 : ρ (.tmp 69) = _ := sn11
            rw [place_at HVS.out (k := 23) rfl] at sn23
            replace sn23 : ρ (.tmp 81) = _ := sn23
            clear hf
            clear HCS HVS qs3 qs8 qs9 qs11 qs12
            refine run_plain ?_
            first | refine op_pick_t rfl sn11 (hρ.const _) ?_ | refine op_pick_f rfl sn11 sn23 ?_
            exact detK.mk
          exact trivial
        case hend =>
          intro xs wx hx hg
          have gk0 : xs 0 = _ := goods_get hg (i := 0) (j := 0) (d := 58) rfl
          have gk1 : xs 1 = _ := goods_get hg (i := 1) (j := 1) (d := 59) rfl
          have gk2 : xs 2 = _ := goods_get hg (i := 2) (j := 2) (d := 60) rfl
          have gk3 : xs 3 = _ := goods_get hg (i := 3) (j := 3) (d := 61) rfl
          have gk4 : xs 4 = _ := goods_get hg (i := 4) (j := 4) (d := 62) rfl
          have gk5 : xs 5 = _ := goods_get hg (i := 5) (j := 5) (d := 63) rfl
          have gk6 : xs 6 = _ := goods_get hg (i := 6) (j := 6) (d := 64) rfl
          have gk7 : xs 7 = _ := goods_get hg (i := 7) (j := 7) (d := 65) rfl
          have gk8 : xs 8 = _ := goods_get hg (i := 8) (j := 8) (d := 66) rfl
          have gk9 : xs 9 = _ := goods_get hg (i := 9) (j := 9) (d := 67) rfl
          have gk10 : xs 10 = _ := goods_get hg (i := 10) (j := 10) (d := 68) rfl
          have gk11 : xs 11 = _ := goods_get hg (i := 11) (j := 11) (d := 69) rfl
          have gk12 : xs 12 = _ := goods_get hg (i := 12) (j := 12) (d := 70) rfl
          have gk13 : xs 13 = _ := goods_get hg (i := 13) (j := 13) (d := 71) rfl
          have gk14 : xs 14 = _ := goods_get hg (i := 14) (j := 14) (d := 72) rfl
          have gk15 : xs 15 = _ := goods_get hg (i := 15) (j := 15) (d := 73) rfl
          have gk16 : xs 16 = _ := goods_get hg (i := 16) (j := 16) (d := 74) rfl
          have gk17 : xs 17 = _ := goods_get hg (i := 17) (j := 17) (d := 75) rfl
          have gk18 : xs 18 = _ := goods_get hg (i := 18) (j := 18) (d := 76) rfl
          have gk19 : xs 19 = _ := goods_get hg (i := 19) (j := 19) (d := 77) rfl
          have gk20 : xs 20 = _ := goods_get hg (i := 20) (j := 20) (d := 78) rfl
          have gk21 : xs 21 = _ := goods_get hg (i := 21) (j := 21) (d := 79) rfl
          have gk22 : xs 22 = _ := goods_get hg (i := 22) (j := 22) (d := 80) rfl
          have gk23 : xs 23 = _ := goods_get hg (i := 23) (j := 23) (d := 81) rfl
          have gk24 : xs 24 = _ := goods_get hg (i := 24) (j := 24) (d := 82) rfl
          clear hg
          simp only [putAll, gk0, gk1, gk2, gk3, gk4, gk5, gk6, gk7, gk8, gk9, gk10, gk11, gk12, gk13, gk14, gk15, gk16, gk17, gk18, gk19, gk20, gk21, gk22, gk23, gk24]
          clear gk0 gk1 gk2 gk3 gk4 gk5 gk6 gk7 gk8 gk9 gk10 gk11 gk12 gk13 gk14 gk15 gk16 gk17 gk18 gk19 gk20 gk21 gk22 gk23 gk24
          clear xs
          simp only [Act.put, List.setIfInBounds_toArray, List.set_cons_zero, List.set_cons_succ]
          have hxx : Ext W4 wx := hx.drawn
          replace hda := heap_ext hda hxx
          replace hdc := heap_ext hdc hxx
          replace hW := hW.trans hxx
          replace hC := hC.ext hxx
          clear hX hx hall
          go_wp2
          go_loopw [13] (fun i wr => wx = wr ∧ ∃ j : Nat, j ≤ n1 ∧ i = .int .i64 j) (fun i _ => n1 - (intOf i).toNat)
          case atStart => exact ⟨rfl, 0, Nat.zero_le _, rfl⟩
          case round =>
            obtain ⟨rfl, j, hj, rfl⟩ := hrel
            have p1 : wx.cell? ⟨gc, 1, none⟩ = some (.slice C n1 cc) := by simp [World.cell?, hdc]
            rcases Nat.lt_or_ge j n1 with hjn | hjn
            · have hini : (j : Int) < (n1 : Int) := by omega
              obtain ⟨a, rfl, s0, s1, -⟩ := hC.at (s := St.zero) (j := j) (by simp [hjn])
              simp only [St.zero] at s0 s1
              go_wp2
              go_roundw
              case rel => exact ⟨by trivial, j + 1, by omega, by go_num⟩
              case measure => simp [intOf]; omega
            · have hini : ¬ (j : Int) < (n1 : Int) := by omega
              have b0 : wx.cell? ⟨gc, 0, none⟩ = some (.int .u64 R) := by simp [World.cell?, hdc]
              have b1 : wx.cell? ⟨gc, 1, none⟩ = some (.slice C n1 cc) := by simp [World.cell?, hdc]
              have b2 : wx.cell? ⟨gc, 2, none⟩ = some (.slice A1 n1 c1) := by simp [World.cell?, hdc]
              go_wp2_with fail
              refine (dappend_row0 R C A1 n1 cc n1 c1 k _ St.zero B m cb bs _ hC (by simp [hk]) (by omega) (by omega) (hB.ext hW) (by simp [St.zero]; omega)).mono ?_
              rintro e w6 ⟨X, cx, ⟨Ds, qs, cs, ks, ds⟩, rfl, hrx, ⟨e1, e2, e3⟩, hx6⟩
              simp only [St.zero, List.nil_append, Nat.zero_add] at e1 e2 e3
              subst e1 e2 e3
              replace hda := heap_ext hda hx6
              replace hdc := heap_ext hdc hx6
              replace hW := hW.trans hx6
              clear hx6 b0 b1 b2 p1
              go_upto_region 20 with (fail)
              have hwa : Ext w6 (w6.alloc (.cells #[.int .u64 R, .slice X n1 cx, .slice A1 n1 c1] 69)) := (Below.refl _ w6).alloc (Nat.le_refl _) _
              have hdx : (w6.alloc (.cells #[.int .u64 R, .slice X n1 cx, .slice A1 n1 c1] 69)).heap[w6.heap.size]? = some (.cells #[.int .u64 R, .slice X n1 cx, .slice A1 n1 c1] 69 (0, 0)) := heap_alloc_new w6 _
              replace hda := heap_ext hda hwa
              replace hdc := heap_ext hdc hwa
              replace hW := hW.trans hwa
              replace hrx := hrx.ext hwa
              generalize w6.alloc (.cells #[.int .u64 R, .slice X n1 cx, .slice A1 n1 c1] 69) = W6 at *
              generalize w6.heap.size = gx at *
              clear hwa
              have b0 : W6.cell? ⟨gx, 0, none⟩ = some (.int .u64 R) := by simp [World.cell?, hdx]
              have b1 : W6.cell? ⟨gx, 1, none⟩ = some (.slice X n1 cx) := by simp [World.cell?, hdx]
              have b2 : W6.cell? ⟨gx, 2, none⟩ = some (.slice A1 n1 c1) := by simp [World.cell?, hdx]
              go_wp2_with fail
              refine (dread_row0 R X A1 n1 cx n1 c1 k _ ⟨Ds, qs, cs, 0, ds⟩ _ hrx (by rw [List.getElem?_set_self (by simp [hk])]) (by omega) (by omega) (by simp only; omega)).mono ?_
              rintro e w7 ⟨S, cS, rfl, hS, hx7⟩
              replace hda := heap_ext hda hx7
              replace hdc := heap_ext hdc hx7
              replace hW := hW.trans hx7
              clear hx7 b0 b1 b2
              have p0 : w7.cell? ⟨ga, 0, none⟩ = some (.int .u64 R) := by simp [World.cell?, hda]
              have p1 : w7.cell? ⟨gc, 0, none⟩ = some (.int .u64 R) := by simp [World.cell?, hdc]
              have q1 := run_convert_bytesV (P := Try.prog) hS Try.underlying27 Try.underlying5 Try.underlying9
              have q2 := run_convert_bytesV (P := Try.prog) (hB.ext hW) Try.underlying27 Try.underlying5 Try.underlying9
              go_wp2
              go_ret
              exact ⟨rfl, hW⟩
      · rw [hr2] at ht2
        have hwo : IntKind.i64.wrap (0 : Int) = 0 := by rw [IntKind.wrap_i64]; omega
        have a0 : w3.cell? ⟨ga, 0, none⟩ = some (.int .u64 R) := by simp [World.cell?, hda]
        have a1 : w3.cell? ⟨ga, 1, none⟩ = some (.slice A0 n1 c0) := by simp [World.cell?, hda]
        have a2 : w3.cell? ⟨ga, 2, none⟩ = some (.slice A1 n1 c1) := by simp [World.cell?, hda]
        go_wp2_with fail
        refine (dclear_row1 R A0 A1 n1 c0 n1 c1 _ (by omega) (by omega) (by omega)).mono ?_
        rintro e w4 ⟨C, cc, rfl, hC, hx4⟩
        replace hda := heap_ext hda hx4
        replace hW := hW.trans hx4
        clear hx4 a0 a1 a2
        go_upto_region 12 with (fail)
        have hwa : Ext w4 (w4.alloc (.cells #[.int .u64 R, .slice A0 n1 c0, .slice C n1 cc] 69)) := (Below.refl _ w4).alloc (Nat.le_refl _) _
        have hdc : (w4.alloc (.cells #[.int .u64 R, .slice A0 n1 c0, .slice C n1 cc] 69)).heap[w4.heap.size]? = some (.cells #[.int .u64 R, .slice A0 n1 c0, .slice C n1 cc] 69 (0, 0)) := heap_alloc_new w4 _
        replace hda := heap_ext hda hwa
        replace hW := hW.trans hwa
        replace hC := hC.ext hwa
        generalize w4.alloc (.cells #[.int .u64 R, .slice A0 n1 c0, .slice C n1 cc] 69) = W4 at *
        generalize w4.heap.size = gc at *
        clear hwa
        have hX : ∀ wx, Ext W4 wx → wx.cell? ⟨ga, 1, none⟩ = some (.slice A0 n1 c0) ∧ wx.cell? ⟨gc, 1, none⟩ = some (.slice A0 n1 c0) ∧ wx.cell? ⟨gc, 2, none⟩ = some (.slice C n1 cc) ∧ Ext W4 wx := fun wx hx =>
          ⟨hx.cell (by simp [World.cell?, hda]), hx.cell (by simp [World.cell?, hdc]), hx.cell (by simp [World.cell?, hdc]), hx⟩
        have hall := fun wx (h : Ext W4 wx) => all_yes A0 A0 n1 c0 c0 l0 l0 wx (h0.ext (hW.trans h)) (h0.ext (hW.trans h)) rfl
        refine' wp_region_sure_all ⟨((some 58, [], none) :: (some 59, [0], none) :: (some 60, [1], none) :: (some 61, [2], some (2, false)) :: (some 62, [2], some (2, false)) :: (some 63, [4, 3, 2], some (2, false)) :: (some 64, [5, 2], some (2, false)) :: (some 65, [6, 2], some (2, false)) :: (some 66, [2], some (2, false)) :: (some 67, [7, 8, 2], some (2, false)) :: (some 68, [2, 9], none) :: (some 69, [10, 2], none) :: (some 70, [11], some (11, false)) :: (some 71, [12, 11], some (11, false)) :: (some 72, [11], some (11, false)) :: (some 73, [14, 13, 11], some (11, false)) :: (some 74, [15, 11], some (11, false)) :: (some 75, [11], some (11, false)) :: (some 76, [17, 11], some (11, false)) :: (some 77, [11], some (11, false)) :: (some 78, [19, 18, 11], some (11, false)) :: (some 79, [20, 11], some (11, false)) :: (some 80, [16, 21, 11, 11], some (11, false)) :: (some 81, [22, 11], some (11, false)) :: (some 82, [11, 23], none) :: []), (0 :: 1 :: 3 :: 7 :: 7 :: 31 :: 63 :: 127 :: 7 :: 511 :: 1023 :: 2047 :: 4095 :: 8191 :: 4095 :: 32767 :: 65535 :: 4095 :: 135167 :: 4095 :: 921599 :: 1970175 :: 4194303 :: 8388607 :: 16777215 :: []), (true :: true :: true :: true :: true :: true :: true :: true :: true :: true :: true :: true :: true :: true :: true :: true :: true :: true :: true :: true :: true :: true :: true :: true :: true :: []), [], 0⟩ 25 147 ((0, 58) :: (1, 59) :: (2, 60) :: (3, 61) :: (4, 62) :: (5, 63) :: (6, 64) :: (7, 65) :: (8, 66) :: (9, 67) :: (10, 68) :: (11, 69) :: (12, 70) :: (13, 71) :: (14, 72) :: (15, 73) :: (16, 74) :: (17, 75) :: (18, 76) :: (19, 77) :: (20, 78) :: (21, 79) :: (22, 80) :: (23, 81) :: (24, 82) :: []) ((0, 58) :: (1, 59) :: (2, 60) :: (3, 61) :: (4, 62) :: (5, 63) :: (6, 64) :: (7, 65) :: (8, 66) :: (9, 67) :: (10, 68) :: (11, 69) :: (12, 70) :: (13, 71) :: (14, 72) :: (15, 73) :: (16, 74) :: (17, 75) :: (18, 76) :: (19, 77) :: (20, 78) :: (21, 79) :: (22, 80) :: (23, 81) :: (24, 82) :: []) (.det _ :: .det _ :: .det _ :: .det _ :: .det _ :: .det _ :: .det _ :: .det _ :: .det _ :: .det _ :: .det _ :: .det _ :: .det _ :: .det _ :: .det _ :: .det _ :: .det _ :: .det _ :: .det _ :: .det _ :: .det _ :: .det _ :: .det _ :: .det _ :: .det _ :: []) (by kernel_rfl) (by kernel_rfl) (by kernel_rfl) rfl (by kernel_rfl) (by kernel_rfl) rfl (by kernel_rfl) ?hone ?hend
        case hone =>
          intro CS frS VS hCS ha hV
          have qs3 := slot_val (t := 3) ha rfl
          simp only [List.getElem_toArray, List.getElem_cons_succ, List.getElem_cons_zero] at qs3
          have qs8 := slot_val (t := 8) ha rfl
          simp only [List.getElem_toArray, List.getElem_cons_succ, List.getElem_cons_zero] at qs8
          have qs9 := slot_val (t := 9) ha rfl
          simp only [List.getElem_toArray, List.getElem_cons_succ, List.getElem_cons_zero] at qs9
          have qs11 := slot_val (t := 11) ha rfl
          simp only [List.getElem_toArray, List.getElem_cons_succ, List.getElem_cons_zero] at qs11
          have qs12 := slot_val (t := 12) ha rfl
          simp only [List.getElem_toArray, List.getElem_cons_succ, List.getElem_cons_zero] at qs12
          have HCS := Lib.hid hCS
          have HVS := Lib.hid hV
          clear ha hCS hV
          -- 0: slot 58 := Op.move t12
          refine sure_det (js := []) (ts := [12]) (gd := none) (place_at HVS.out (k := 0) rfl) (by rw [HCS.out]; kernel_rfl) ?_ ?_
          · intro wx hx ρ hρ hs hf
            have hρc := hρ.const
            have hρf := hρ.func
            obtain ⟨fx12, -⟩ := hf
            rw [qs12] at fx12
            clear hs
            clear HCS HVS qs3 qs8 qs9 qs11 qs12
            refine run_plain ?_
            refine op_move rfl fx12 ?_
            exact detK.mk
          -- 1: slot 59 := Op.binOp BinOp.neq 31 t58 ((i64 0)) 31
          refine sure_det (js := [(0, 58)]) (ts := []) (gd := none) (place_at HVS.out (k := 1) rfl) (by rw [HCS.out]; kernel_rfl) ?_ ?_
          · intro wx hx ρ hρ hs hf
            have hρc := hρ.const
            have hρf := hρ.func
            obtain ⟨sn0, -⟩ := hs
            rw [place_at HVS.out (k := 0) rfl] at sn0
            replace sn0 : ρ (.tmp 58) = _ := sn0
            clear hf
            clear HCS HVS qs3 qs8 qs9 qs11 qs12
            refine run_plain ?_
            unfold runs
            go_simp
            exact detK.mk
          -- 2: slot 60 := Op.move t59
          refine sure_det (js := [(1, 59)]) (ts := []) (gd := none) (place_at HVS.out (k := 2) rfl) (by rw [HCS.out]; kernel_rfl) ?_ ?_
          · intro wx hx ρ hρ hs hf
            have hρc := hρ.const
            have hρf := hρ.func
            obtain ⟨sn1, -⟩ := hs
            rw [place_at HVS.out (k := 1) rfl] at sn1
            replace sn1 : ρ (.tmp 59) = _ := sn1
            clear hf
            clear HCS HVS qs3 qs8 qs9 qs11 qs12
            refine run_plain ?_
            refine op_move rfl sn1 ?_
            exact detK.mk
          -- 3: slot 61 := Op.move t8
          refine sure_det (js := [(2, 60)]) (ts := [8]) (gd := (some (60, false))) (place_at HVS.out (k := 3) rfl) (by rw [HCS.out]; kernel_rfl) ?_ ?_
          · intro wx hx ρ hρ hs hf
            have hρc := hρ.const
            have hρf := hρ.func
            obtain ⟨sn2, -⟩ := hs
            obtain ⟨fx8, -⟩ := hf
            rw [qs8] at fx8
            rw [place_at HVS.out (k := 2) rfl] at sn2
            replace sn2 : ρ (.tmp 60) = _ := sn2
            clear HCS HVS qs3 qs8 qs9 qs11 qs12
            first
              | (refine run_passed sn2 ?_
                 exact detK.mk)
              | (refine run_guarded sn2 ?_
                 refine op_move rfl fx8 ?_
                 exact detK.mk)
          -- 4: slot 62 := Op.fieldAddr 69 t11 1
          refine sure_det (js := [(2, 60)]) (ts := [11]) (gd := (some (60, false))) (place_at HVS.out (k := 4) rfl) (by rw [HCS.out]; kernel_rfl) ?_ ?_
          · intro wx hx ρ hρ hs hf
            have hρc := hρ.const
            have hρf := hρ.func
            obtain ⟨sn2, -⟩ := hs
            obtain ⟨fx11, -⟩ := hf
            rw [qs11] at fx11
            rw [place_at HVS.out (k := 2) rfl] at sn2
            replace sn2 : ρ (.tmp 60) = _ := sn2
            clear HCS HVS qs3 qs8 qs9 qs11 qs12
            first
              | (refine run_passed sn2 ?_
                 exact detK.mk)
              | (refine run_guarded sn2 ?_
                 unfold runs
                 go_simp
                 exact detK.mk)
          -- 5: slot 63 := Op.indexAddr 67 t62 t61
          refine sure_det (js := [(4, 62), (3, 61), (2, 60)]) (ts := []) (gd := (some (60, false))) (place_at HVS.out (k := 5) rfl) (by rw [HCS.out]; kernel_rfl) ?_ ?_
          · intro wx hx ρ hρ hs hf
            have hρc := hρ.const
            have hρf := hρ.func
            obtain ⟨sn4, sn3, sn2, -⟩ := hs
            rw [place_at HVS.out (k := 4) rfl] at sn4
            replace sn4 : ρ (.tmp 62) = _ := sn4
            rw [place_at HVS.out (k := 3) rfl] at sn3
            replace sn3 : ρ (.tmp 61) = _ := sn3
            rw [place_at HVS.out (k := 2) rfl] at sn2
            replace sn2 : ρ (.tmp 60) = _ := sn2
            clear hf
            clear HCS HVS qs3 qs8 qs9 qs11 qs12
            first
              | (refine run_passed sn2 ?_
                 exact detK.mk)
              | (refine run_guarded sn2 ?_
                 unfold runs
                 go_simp
                 exact detK.mk)
          -- 6: slot 64 := Op.load 66 t63
          refine sure_det (js := [(5, 63), (2, 60)]) (ts := []) (gd := (some (60, false))) (place_at HVS.out (k := 6) rfl) (by rw [HCS.out]; kernel_rfl) ?_ ?_
          · intro wx hx ρ hρ hs hf
            have hρc := hρ.const
            have hρf := hρ.func
            obtain ⟨sn5, sn2, -⟩ := hs
            rw [place_at HVS.out (k := 5) rfl] at sn5
            replace sn5 : ρ (.tmp 63) = _ := sn5
            rw [place_at HVS.out (k := 2) rfl] at sn2
            replace sn2 : ρ (.tmp 60) = _ := sn2
            clear hf
            clear HCS HVS qs3 qs8 qs9 qs11 qs12
            first
              | (refine run_passed sn2 ?_
                 exact detK.mk)
              | (refine run_guarded sn2 ?_
                 obtain ⟨p0, p1, p2, -⟩ := hX wx hx.drawn
                 unfold runs
                 go_simp
                 exact detK.mk)
          -- 7: slot 65 := Op.call { len, args := #[t64], argTypes := #[66] }
          refine sure_det (js := [(6, 64), (2, 60)]) (ts := []) (gd := (some (60, false))) (place_at HVS.out (k := 7) rfl) (by rw [HCS.out]; kernel_rfl) ?_ ?_
          · intro wx hx ρ hρ hs hf
            have hρc := hρ.const
            have hρf := hρ.func
            obtain ⟨sn6, sn2, -⟩ := hs
            rw [place_at HVS.out (k := 6) rfl] at sn6
            replace sn6 : ρ (.tmp 64) = _ := sn6
            rw [place_at HVS.out (k := 2) rfl] at sn2
            replace sn2 : ρ (.tmp 60) = _ := sn2
            clear hf
            clear HCS HVS qs3 qs8 qs9 qs11 qs12
            first
              | (refine run_passed sn2 ?_
                 exact detK.mk)
              | (refine run_guarded sn2 ?_
                 unfold runs
                 go_simp
                 exact detK.mk)
          -- 8: slot 66 := Op.move t9
          refine sure_det (js := [(2, 60)]) (ts := [9]) (gd := (some (60, false))) (place_at HVS.out (k := 8) rfl) (by rw [HCS.out]; kernel_rfl) ?_ ?_
          · intro wx hx ρ hρ hs hf
            have hρc := hρ.const
            have hρf := hρ.func
            obtain ⟨sn2, -⟩ := hs
            obtain ⟨fx9, -⟩ := hf
            rw [qs9] at fx9
            rw [place_at HVS.out (k := 2) rfl] at sn2
            replace sn2 : ρ (.tmp 60) = _ := sn2
            clear HCS HVS qs3 qs8 qs9 qs11 qs12
            first
              | (refine run_passed sn2 ?_
                 exact detK.mk)
              | (refine run_guarded sn2 ?_
                 refine op_move rfl fx9 ?_
                 exact detK.mk)
          -- 9: slot 67 := Op.binOp BinOp.neq 3 t65 t66 3
          refine sure_det (js := [(7, 65), (8, 66), (2, 60)]) (ts := []) (gd := (some (60, false))) (place_at HVS.out (k := 9) rfl) (by rw [HCS.out]; kernel_rfl) ?_ ?_
          · intro wx hx ρ hρ hs hf
            have hρc := hρ.const
            have hρf := hρ.func
            obtain ⟨sn7, sn8, sn2, -⟩ := hs
            rw [place_at HVS.out (k := 7) rfl] at sn7
            replace sn7 : ρ (.tmp 65) = _ := sn7
            rw [place_at HVS.out (k := 8) rfl] at sn8
            replace sn8 : ρ (.tmp 66) = _ := sn8
            rw [place_at HVS.out (k := 2) rfl] at sn2
            replace sn2 : ρ (.tmp 60) = _ := sn2
            clear hf
            clear HCS HVS qs3 qs8 qs9 qs11 qs12
            first
              | (refine run_passed sn2 ?_
                 exact detK.mk)
              | (refine run_guarded sn2 ?_
                 unfold runs
                 go_simp
                 exact detK.mk)
          -- 10: slot 68 := Op.pick t60 ((Value.bool true)) t67
          refine sure_det (js := [(2, 60), (9, 67)]) (ts := []) (gd := none) (place_at HVS.out (k := 10) rfl) (by rw [HCS.out]; kernel_rfl) ?_ ?_
          · intro wx hx ρ hρ hs hf
            have hρc := hρ.const
            have hρf := hρ.func
            obtain ⟨sn2, sn9, -⟩ := hs
            rw [place_at HVS.out (k := 2) rfl] at sn2
            replace sn2 : ρ (.tmp 60) = _ := sn2
            rw [place_at HVS.out (k := 9) rfl] at sn9
            replace sn9 : ρ (.tmp 67) = _ := sn9
            clear hf
            clear HCS HVS qs3 qs8 qs9 qs11 qs12
            refine run_plain ?_
            first | refine op_pick_t rfl sn2 (hρ.const _) ?_ | refine op_pick_f rfl sn2 sn9 ?_
            exact detK.mk
          -- 11: slot 69 := Op.move t68
          refine sure_det (js := [(10, 68)]) (ts := []) (gd := none) (place_at HVS.out (k := 11) rfl) (by rw [HCS.out]; kernel_rfl) ?_ ?_
          · intro wx hx ρ hρ hs hf
            have hρc := hρ.const
            have hρf := hρ.func
            obtain ⟨sn10, -⟩ := hs
            rw [place_at HVS.out (k := 10) rfl] at sn10
            replace sn10 : ρ (.tmp 68) = _ := sn10
            clear hf
            clear HCS HVS qs3 qs8 qs9 qs11 qs12
            refine run_plain ?_
            refine op_move rfl sn10 ?_
            exact detK.mk
          -- 12: slot 70 := Op.move t8
          refine sure_det (js := [(11, 69)]) (ts := [8]) (gd := (some (69, false))) (place_at HVS.out (k := 12) rfl) (by rw [HCS.out]; kernel_rfl) ?_ ?_
          · intro wx hx ρ hρ hs hf
            have hρc := hρ.const
            have hρf := hρ.func
            obtain ⟨sn11, -⟩ := hs
            obtain ⟨fx8, -⟩ := hf
            rw [qs8] at fx8
            rw [place_at HVS.out (k := 11) rfl] at sn11
            replace sn11 : ρ (.tmp 69) = _ := sn11
            clear HCS HVS qs3 qs8 qs9 qs11 qs12
            first
              | (refine run_passed sn11 ?_
                 exact detK.mk)
              | (refine run_guarded sn11 ?_
                 refine op_move rfl fx8 ?_
                 exact detK.mk)
          -- 13: slot 71 := Op.binOp BinOp.sub 3 ((i64 1)) t70 3
          refine sure_det (js := [(12, 70), (11, 69)]) (ts := []) (gd := (some (69, false))) (place_at HVS.out (k := 13) rfl) (by rw [HCS.out]; kernel_rfl) ?_ ?_
          · intro wx hx ρ hρ hs hf
            have hρc := hρ.const
            have hρf := hρ.func
            obtain ⟨sn12, sn11, -⟩ := hs
            rw [place_at HVS.out (k := 12) rfl] at sn12
            replace sn12 : ρ (.tmp 70) = _ := sn12
            rw [place_at HVS.out (k := 11) rfl] at sn11
            replace sn11 : ρ (.tmp 69) = _ := sn11
            clear hf
            clear HCS HVS qs3 qs8 qs9 qs11 qs12
            first
              | (refine run_passed sn11 ?_
                 exact detK.mk)
              | (refine run_guarded sn11 ?_
                 unfold runs
                 go_simp
                 exact detK.mk)
          -- 14: slot 72 := Op.fieldAddr 69 t11 1
          refine sure_det (js := [(11, 69)]) (ts := [11]) (gd := (some (69, false))) (place_at HVS.out (k := 14) rfl) (by rw [HCS.out]; kernel_rfl) ?_ ?_
          · intro wx hx ρ hρ hs hf
            have hρc := hρ.const
            have hρf := hρ.func
            obtain ⟨sn11, -⟩ := hs
            obtain ⟨fx11, -⟩ := hf
            rw [qs11] at fx11
            rw [place_at HVS.out (k := 11) rfl] at sn11
            replace sn11 : ρ (.tmp 69) = _ := sn11
            clear HCS HVS qs3 qs8 qs9 qs11 qs12
            first
              | (refine run_passed sn11 ?_
                 exact detK.mk)
              | (refine run_guarded sn11 ?_
                 unfold runs
                 go_simp
                 exact detK.mk)
          -- 15: slot 73 := Op.indexAddr 67 t72 t71
          refine sure_det (js := [(14, 72), (13, 71), (11, 69)]) (ts := []) (gd := (some (69, false))) (place_at HVS.out (k := 15) rfl) (by rw [HCS.out]; kernel_rfl) ?_ ?_
          · intro wx hx ρ hρ hs hf
            have hρc := hρ.const
            have hρf := hρ.func
            obtain ⟨sn14, sn13, sn11, -⟩ := hs
            rw [place_at HVS.out (k := 14) rfl] at sn14
            replace sn14 : ρ (.tmp 72) = _ := sn14
            rw [place_at HVS.out (k := 13) rfl] at sn13
            replace sn13 : ρ (.tmp 71) = _ := sn13
            rw [place_at HVS.out (k := 11) rfl] at sn11
            replace sn11 : ρ (.tmp 69) = _ := sn11
            clear hf
            clear HCS HVS qs3 qs8 qs9 qs11 qs12
            first
              | (refine run_passed sn11 ?_
                 exact detK.mk)
              | (refine run_guarded sn11 ?_
                 unfold runs
                 go_simp
                 exact detK.mk)
          -- 16: slot 74 := Op.load 66 t73
          refine sure_det (js := [(15, 73), (11, 69)]) (ts := []) (gd := (some (69, false))) (place_at HVS.out (k := 16) rfl) (by rw [HCS.out]; kernel_rfl) ?_ ?_
          · intro wx hx ρ hρ hs hf
            have hρc := hρ.const
            have hρf := hρ.func
            obtain ⟨sn15, sn11, -⟩ := hs
            rw [place_at HVS.out (k := 15) rfl] at sn15
            replace sn15 : ρ (.tmp 73) = _ := sn15
            rw [place_at HVS.out (k := 11) rfl] at sn11
            replace sn11 : ρ (.tmp 69) = _ := sn11
            clear hf
            clear HCS HVS qs3 qs8 qs9 qs11 qs12
            first
              | (refine run_passed sn11 ?_
                 exact detK.mk)
              | (refine run_guarded sn11 ?_
                 obtain ⟨p0, p1, p2, -⟩ := hX wx hx.drawn
                 unfold runs
                 go_simp
                 exact detK.mk)
          -- 17: slot 75 := Op.move t8
          refine sure_det (js := [(11, 69)]) (ts := [8]) (gd := (some (69, false))) (place_at HVS.out (k := 17) rfl) (by rw [HCS.out]; kernel_rfl) ?_ ?_
          · intro wx hx ρ hρ hs hf
            have hρc := hρ.const
            have hρf := hρ.func
            obtain ⟨sn11, -⟩ := hs
            obtain ⟨fx8, -⟩ := hf
            rw [qs8] at fx8
            rw [place_at HVS.out (k := 11) rfl] at sn11
            replace sn11 : ρ (.tmp 69) = _ := sn11
            clear HCS HVS qs3 qs8 qs9 qs11 qs12
            first
              | (refine run_passed sn11 ?_
                 exact detK.mk)
              | (refine run_guarded sn11 ?_
                 refine op_move rfl fx8 ?_
                 exact detK.mk)
          -- 18: slot 76 := Op.binOp BinOp.sub 3 ((i64 1)) t75 3
          refine sure_det (js := [(17, 75), (11, 69)]) (ts := []) (gd := (some (69, false))) (place_at HVS.out (k := 18) rfl) (by rw [HCS.out]; kernel_rfl) ?_ ?_
          · intro wx hx ρ hρ hs hf
            have hρc := hρ.const
            have hρf := hρ.func
            obtain ⟨sn17, sn11, -⟩ := hs
            rw [place_at HVS.out (k := 17) rfl] at sn17
            replace sn17 : ρ (.tmp 75) = _ := sn17
            rw [place_at HVS.out (k := 11) rfl] at sn11
            replace sn11 : ρ (.tmp 69) = _ := sn11
            clear hf
            clear HCS HVS qs3 qs8 qs9 qs11 qs12
            first
              | (refine run_passed sn11 ?_
                 exact detK.mk)
              | (refine run_guarded sn11 ?_
                 unfold runs
                 go_simp
                 exact detK.mk)
          -- 19: slot 77 := Op.fieldAddr 69 t3 1
          refine sure_det (js := [(11, 69)]) (ts := [3]) (gd := (some (69, false))) (place_at HVS.out (k := 19) rfl) (by rw [HCS.out]; kernel_rfl) ?_ ?_
          · intro wx hx ρ hρ hs hf
            have hρc := hρ.const
            have hρf := hρ.func
            obtain ⟨sn11, -⟩ := hs
            obtain ⟨fx3, -⟩ := hf
            rw [qs3] at fx3
            rw [place_at HVS.out (k := 11) rfl] at sn11
            replace sn11 : ρ (.tmp 69) = _ := sn11
            clear HCS HVS qs3 qs8 qs9 qs11 qs12
            first
              | (refine run_passed sn11 ?_
                 exact detK.mk)
              | (refine run_guarded sn11 ?_
                 unfold runs
                 go_simp
                 exact detK.mk)
          -- 20: slot 78 := Op.indexAddr 67 t77 t76
          refine sure_det (js := [(19, 77), (18, 76), (11, 69)]) (ts := []) (gd := (some (69, false))) (place_at HVS.out (k := 20) rfl) (by rw [HCS.out]; kernel_rfl) ?_ ?_
          · intro wx hx ρ hρ hs hf
            have hρc := hρ.const
            have hρf := hρ.func
            obtain ⟨sn19, sn18, sn11, -⟩ := hs
            rw [place_at HVS.out (k := 19) rfl] at sn19
            replace sn19 : ρ (.tmp 77) = _ := sn19
            rw [place_at HVS.out (k := 18) rfl] at sn18
            replace sn18 : ρ (.tmp 76) = _ := sn18
            rw [place_at HVS.out (k := 11) rfl] at sn11
            replace sn11 : ρ (.tmp 69) = _ := sn11
            clear hf
            clear HCS HVS qs3 qs8 qs9 qs11 qs12
            first
              | (refine run_passed sn11 ?_
                 exact detK.mk)
              | (refine run_guarded sn11 ?_
                 unfold runs
                 go_simp
                 exact detK.mk)
          -- 21: slot 79 := Op.load 66 t78
          refine sure_det (js := [(20, 78), (11, 69)]) (ts := []) (gd := (some (69, false))) (place_at HVS.out (k := 21) rfl) (by rw [HCS.out]; kernel_rfl) ?_ ?_
          · intro wx hx ρ hρ hs hf
            have hρc := hρ.const
            have hρf := hρ.func
            obtain ⟨sn20, sn11, -⟩ := hs
            rw [place_at HVS.out (k := 20) rfl] at sn20
            replace sn20 : ρ (.tmp 78) = _ := sn20
            rw [place_at HVS.out (k := 11) rfl] at sn11
            replace sn11 : ρ (.tmp 69) = _ := sn11
            clear hf
            clear HCS HVS qs3 qs8 qs9 qs11 qs12
            first
              | (refine run_passed sn11 ?_
                 exact detK.mk)
              | (refine run_guarded sn11 ?_
                 obtain ⟨p0, p1, p2, -⟩ := hX wx hx.drawn
                 unfold runs
                 go_simp
                 exact detK.mk)
          -- 22: slot 80 := Op.call { call ( 53), args := #[t74, t79], argTypes := #[66, 66] }
          refine sure_det (js := [(16, 74), (21, 79), (11, 69)]) (ts := []) (gd := (some (69, false))) (place_at HVS.out (k := 22) rfl) (by rw [HCS.out]; kernel_rfl) ?_ ?_
          · intro wx hx ρ hρ hs hf
            have hρc := hρ.const
            have hρf := hρ.func
            obtain ⟨sn16, sn21, sn11, -⟩ := hs
            rw [place_at HVS.out (k := 16) rfl] at sn16
            replace sn16 : ρ (.tmp 74) = _ := sn16
            rw [place_at HVS.out (k := 21) rfl] at sn21
            replace sn21 : ρ (.tmp 79) = _ := sn21
            rw [place_at HVS.out (k := 11) rfl] at sn11
            replace sn11 : ρ (.tmp 69) = _ := sn11
            clear hf
            clear HCS HVS qs3 qs8 qs9 qs11 qs12
            first
              | (refine run_passed sn11 ?_
                 exact detK.mk)
              | (refine run_guarded sn11 ?_
                 refine op_call rfl hρ Try.call53 (map_two sn16 sn21) ?_
                 refine Calls.mono (hall _ (hX _ hx.drawn).2.2.2) ?_; rintro e w' ⟨rfl, hx5⟩; refine ⟨_, rfl, ?_⟩; exact detK.ext hx5)
          -- 23: slot 81 := Op.unOp UnOp.not 4 t80
          refine sure_det (js := [(22, 80), (11, 69)]) (ts := []) (gd := (some (69, false))) (place_at HVS.out (k := 23) rfl) (by rw [HCS.out]; kernel_rfl) ?_ ?_
          · intro wx hx ρ hρ hs hf
            have hρc := hρ.const
            have hρf := hρ.func
            obtain ⟨sn22, sn11, -⟩ := hs
            rw [place_at HVS.out (k := 22) rfl] at sn22
            replace sn22 : ρ (.tmp 80) = _ := sn22
            rw [place_at HVS.out (k := 11) rfl] at sn11
            replace sn11 : ρ (.tmp 69) = _ := sn11
            clear hf
            clear HCS HVS qs3 qs8 qs9 qs11 qs12
            first
              | (refine run_passed sn11 ?_
                 exact detK.mk)
              | (refine run_guarded sn11 ?_
                 unfold runs
                 go_simp
                 exact detK.mk)
          -- 24: slot 82 := Op.pick t69 ((Value.bool true)) t81
          refine sure_det (js := [(11, 69), (23, 81)]) (ts := []) (gd := none) (place_at HVS.out (k := 24) rfl) (by rw [HCS.out]; kernel_rfl) ?_ ?_
          · intro wx hx ρ hρ hs hf
            have hρc := hρ.const
            have hρf := hρ.func
            obtain ⟨sn11, sn23, -⟩ := hs
            rw [place_at HVS.out (k := 11) rfl] at sn11
            replace sn11 : ρ (.tmp 69) = _ := sn11
            rw [place_at HVS.out (k := 23) rfl] at sn23
            replace sn23 : ρ (.tmp 81) = _ := sn23
            clear hf
            clear HCS HVS qs3 qs8 qs9 qs11 qs12
            refine run_plain ?_
            first | refine op_pick_t rfl sn11 (hρ.const _) ?_ | refine op_pick_f rfl sn11 sn23 ?_
            exact detK.mk
          exact trivial
        case hend =>
          intro xs wx hx hg
          have gk0 : xs 0 = _ := goods_get hg (i := 0) (j := 0) (d := 58) rfl
          have gk1 : xs 1 = _ := goods_get hg (i := 1) (j := 1) (d := 59) rfl
          have gk2 : xs 2 = _ := goods_get hg (i := 2) (j := 2) (d := 60) rfl
          have gk3 : xs 3 = _ := goods_get hg (i := 3) (j := 3) (d := 61) rfl
          have gk4 : xs 4 = _ := goods_get hg (i := 4) (j := 4) (d := 62) rfl
          have gk5 : xs 5 = _ := goods_get hg (i := 5) (j := 5) (d := 63) rfl
          have gk6 : xs 6 = _ := goods_get hg (i := 6) (j := 6) (d := 64) rfl
          have gk7 : xs 7 = _ := goods_get hg (i := 7) (j := 7) (d := 65) rfl
          have gk8 : xs 8 = _ := goods_get hg (i := 8) (j := 8) (d := 66) rfl
          have gk9 : xs 9 = _ := goods_get hg (i := 9) (j := 9) (d := 67) rfl
          have gk10 : xs 10 = _ := goods_get hg (i := 10) (j := 10) (d := 68) rfl
          have gk11 : xs 11 = _ := goods_get hg (i := 11) (j := 11) (d := 69) rfl
          have gk12 : xs 12 = _ := goods_get hg (i := 12) (j := 12) (d := 70) rfl
          have gk13 : xs 13 = _ := goods_get hg (i := 13) (j := 13) (d := 71) rfl
          have gk14 : xs 14 = _ := goods_get hg (i := 14) (j := 14) (d := 72) rfl
          have gk15 : xs 15 = _ := goods_get hg (i := 15) (j := 15) (d := 73) rfl
          have gk16 : xs 16 = _ := goods_get hg (i := 16) (j := 16) (d := 74) rfl
          have gk17 : xs 17 = _ := goods_get hg (i := 17) (j := 17) (d := 75) rfl
          have gk18 : xs 18 = _ := goods_get hg (i := 18) (j := 18) (d := 76) rfl
          have gk19 : xs 19 = _ := goods_get hg (i := 19) (j := 19) (d := 77) rfl
          have gk20 : xs 20 = _ := goods_get hg (i := 20) (j := 20) (d := 78) rfl
          have gk21 : xs 21 = _ := goods_get hg (i := 21) (j := 21) (d := 79) rfl
          have gk22 : xs 22 = _ := goods_get hg (i := 22) (j := 22) (d := 80) rfl
          have gk23 : xs 23 = _ := goods_get hg (i := 23) (j := 23) (d := 81) rfl
          have gk24 : xs 24 = _ := goods_get hg (i := 24) (j := 24) (d := 82) rfl
          clear hg
          simp only [putAll, gk0, gk1, gk2, gk3, gk4, gk5, gk6, gk7, gk8, gk9, gk10, gk11, gk12, gk13, gk14, gk15, gk16, gk17, gk18, gk19, gk20, gk21, gk22, gk23, gk24]
          clear gk0 gk1 gk2 gk3 gk4 gk5 gk6 gk7 gk8 gk9 gk10 gk11 gk12 gk13 gk14 gk15 gk16 gk17 gk18 gk19 gk20 gk21 gk22 gk23 gk24
          clear xs
          simp only [Act.put, List.setIfInBounds_toArray, List.set_cons_zero, List.set_cons_succ]
          have hxx : Ext W4 wx := hx.drawn
          replace hda := heap_ext hda hxx
          replace hdc := heap_ext hdc hxx
          replace hW := hW.trans hxx
          replace hC := hC.ext hxx
          clear hX hx hall
          go_wp2
          go_loopw [13] (fun i wr => wx = wr ∧ ∃ j : Nat, j ≤ n1 ∧ i = .int .i64 j) (fun i _ => n1 - (intOf i).toNat)
          case atStart => exact ⟨rfl, 0, Nat.zero_le _, rfl⟩
          case round =>
            obtain ⟨rfl, j, hj, rfl⟩ := hrel
            have p2 : wx.cell? ⟨gc, 2, none⟩ = some (.slice C n1 cc) := by simp [World.cell?, hdc]
            rcases Nat.lt_or_ge j n1 with hjn | hjn
            · have hini : (j : Int) < (n1 : Int) := by omega
              obtain ⟨a, rfl, s0, s1, -⟩ := hC.at (s := St.zero) (j := j) (by simp [hjn])
              simp only [St.zero] at s0 s1
              go_wp2
              go_roundw
              case rel => exact ⟨by trivial, j + 1, by omega, by go_num⟩
              case measure => simp [intOf]; omega
            · have hini : ¬ (j : Int) < (n1 : Int) := by omega
              have b0 : wx.cell? ⟨gc, 0, none⟩ = some (.int .u64 R) := by simp [World.cell?, hdc]
              have b1 : wx.cell? ⟨gc, 1, none⟩ = some (.slice A0 n1 c0) := by simp [World.cell?, hdc]
              have b2 : wx.cell? ⟨gc, 2, none⟩ = some (.slice C n1 cc) := by simp [World.cell?, hdc]
              go_wp2_with fail
              refine (dappend_row1 R A0 C n1 c0 n1 cc k _ St.zero B m cb bs _ hC (by simp [hk]) (by omega) (by omega) (hB.ext hW) (by simp [St.zero]; omega)).mono ?_
              rintro e w6 ⟨X, cx, ⟨Ds, qs, cs, ks, ds⟩, rfl, hrx, ⟨e1, e2, e3⟩, hx6⟩
              simp only [St.zero, List.nil_append, Nat.zero_add] at e1 e2 e3
              subst e1 e2 e3
              replace hda := heap_ext hda hx6
              replace hdc := heap_ext hdc hx6
              replace hW := hW.trans hx6
              clear hx6 b0 b1 b2 p2
              go_upto_region 20 with (fail)
              have hwa : Ext w6 (w6.alloc (.cells #[.int .u64 R, .slice A0 n1 c0, .slice X n1 cx] 69)) := (Below.refl _ w6).alloc (Nat.le_refl _) _
              have hdx : (w6.alloc (.cells #[.int .u64 R, .slice A0 n1 c0, .slice X n1 cx] 69)).heap[w6.heap.size]? = some (.cells #[.int .u64 R, .slice A0 n1 c0, .slice X n1 cx] 69 (0, 0)) := heap_alloc_new w6 _
              replace hda := heap_ext hda hwa
              replace hdc := heap_ext hdc hwa
              replace hW := hW.trans hwa
              replace hrx := hrx.ext hwa
              generalize w6.alloc (.cells #[.int .u64 R, .slice A0 n1 c0, .slice X n1 cx] 69) = W6 at *
              generalize w6.heap.size = gx at *
              clear hwa
              have b0 : W6.cell? ⟨gx, 0, none⟩ = some (.int .u64 R) := by simp [World.cell?, hdx]
              have b1 : W6.cell? ⟨gx, 1, none⟩ = some (.slice A0 n1 c0) := by simp [World.cell?, hdx]
              have b2 : W6.cell? ⟨gx, 2, none⟩ = some (.slice X n1 cx) := by simp [World.cell?, hdx]
              go_wp2_with fail
              refine (dread_row1 R A0 X n1 c0 n1 cx k _ ⟨Ds, qs, cs, 0, ds⟩ _ hrx (by rw [List.getElem?_set_self (by simp [hk])]) (by omega) (by omega) (by simp only; omega)).mono ?_
              rintro e w7 ⟨S, cS, rfl, hS, hx7⟩
              replace hda := heap_ext hda hx7
              replace hdc := heap_ext hdc hx7
              replace hW := hW.trans hx7
              clear hx7 b0 b1 b2
              have p0 : w7.cell? ⟨ga, 0, none⟩ = some (.int .u64 R) := by simp [World.cell?, hda]
              have p1 : w7.cell? ⟨gc, 0, none⟩ = some (.int .u64 R) := by simp [World.cell?, hdc]
              have q1 := run_convert_bytesV (P := Try.prog) hS Try.underlying27 Try.underlying5 Try.underlying9
              have q2 := run_convert_bytesV (P := Try.prog) (hB.ext hW) Try.underlying27 Try.underlying5 Try.underlying9
              go_wp2
              go_ret
              exact ⟨rfl, hW⟩
set_option maxRecDepth 100000 in
theorem DiskRows_lifted (os : Os) (started : os.Started) (H : Type) (enc : TypeId × Value → H) :
    ReturnsInHanded {} Try.checked os 13 .any (Rows.diskRowsSpec.pre6 enc Try.prog Try.f13 Rows.diskRowsRow.domain false) (Rows.diskRowsSpec.post enc Try.prog Try.f13 false true false false) := by
  refine law_row os started H enc Rows.diskRowsSpec rfl (fun ds h => by
    match ds, h with
    | [_], _ => rfl) (by kernel_rfl) Try.func13 rfl
    (by rw [Try.params13]; intro t ht; simp at ht; subst ht; exact ⟨by kernel_rfl, of_decide_eq_true (by kernel_rfl)⟩)
    (ChangeSpec.witness6 (enc := enc) (C := Try.checked) false ⟨#[], #[.agg #[.int .u64 0, .slice none 0 0, .slice none 0 0, .int .u8 0, .int .u8 0, .slice none 0 0]], []⟩ 8 (by kernel_rfl) (by kernel_rfl) (by kernel_rfl) (by kernel_rfl)) ?_
  intro W base args ds ps hval hA hlt
  rw [Try.params13] at hA hval
  obtain ⟨v0, d0, rfl, rfl, h0⟩ := trodAll_one hA
  obtain ⟨R, A0, A1, n0, c0, n1, c1, l0, l1, r, i, B, m, cb, bs, rfl, hr0, hr1, hr, hi, hB⟩ := open_drows (hval 0 _ v0 rfl rfl) h0
  obtain ⟨rn, rfl⟩ := Int.eq_ofNat_of_zero_le hr.1
  obtain ⟨iN, rfl⟩ := Int.eq_ofNat_of_zero_le hi.1
  exact drows_walk R A0 A1 n0 c0 n1 c1 l0 l1 rn iN B m cb bs W hr0 hr1 (by omega) (by omega) hB
theorem DiskRows_holds : Rows.DiskRowsSaid :=
  OpenClaim.holds_of_wide 13 Try.f13 rfl rfl rfl rfl rfl rfl rfl ⟨rfl, rfl, rfl, rfl, rfl⟩ rfl rfl rfl rfl rfl (by kernel_rfl) Try.func13 (by kernel_rfl)
    (of_decide_eq_true (by kernel_rfl)) (by unfold Func.isWrapper; rw [if_neg (of_decide_eq_false (by kernel_rfl))]; exact ⟨rfl, rfl⟩)
    (fun os started H enc _ => DiskRows_lifted os started H enc)
#print axioms DiskRows_holds
end Go.Proofs.Ythgcpfofdbdkpaa
