/- Proved: the law CellTells (places, memories, and which are right, are as the document says) returns true at every input and turns none of its arguments. No condition. -/
import Derived.Test.YthgcpfofdbdkpaaShown9
import Derived.Test.YthgcpfofdbdkpaaCellRef
import Derived.Test.YthgcpfofdbdkpaaLift
import Derived.Test.YthgcpfofdbdkpaaAggs
import Derived.Deep.CutRange
namespace Go.Proofs.Ythgcpfofdbdkpaa
open Go.ChangeShapes Go.WideShapes Go.ChangeAt Go.RowKit

theorem and63 (t : Int) : ∃ b : Nat, bits .and .i64 t 63 = (b : Int) ∧ b ≤ 63 := by
  have h : (BitVec.ofInt 64 t &&& BitVec.ofInt 64 63).toNat ≤ 63 := by
    rw [BitVec.toNat_and]
    exact Nat.le_trans Nat.and_le_right (by decide)
  refine ⟨(BitVec.ofInt 64 t &&& BitVec.ofInt 64 63).toNat, ?_, h⟩
  show IntKind.i64.wrap ((BitVec.ofInt 64 t &&& BitVec.ofInt 64 63).toNat : Int) = _
  rw [IntKind.wrap_i64]
  omega
theorem ctells_up (t c mt mc : Int) (A : Option Addr) (n cp : Nat) (rn fn : Int) (w : World) (h : (400 < c ∧ c ≤ 65536) ∨ 4000 < n) :
    Calls Try.prog 5 #[.agg #[.int .i64 t, .int .i64 c, .int .i64 mt, .int .i64 mc, .slice A n cp, .int .u16 rn, .int .u8 fn]] w fun e w' => e = .returned (.bool true) ∧ Ext w w' := by
  have hE : Ext w (w.alloc (.cells #[.int .i64 t, .int .i64 c, .int .i64 mt, .int .i64 mc, .slice A n cp, .int .u16 rn, .int .u8 fn] 45)) := (Below.refl _ w).alloc (Nat.le_refl _) _
  have h' : ((400 : Int) < c ∧ c ≤ 65536) ∨ ((400 : Int) < c ∧ ¬ c ≤ 65536 ∧ 4000 < n) ∨ (¬ (400 : Int) < c ∧ 4000 < n) := by omega
  clear h
  rcases h' with ⟨h1, h2⟩ | ⟨h1, h2, h3⟩ | ⟨h1, h3⟩
  all_goals
    go_enter Try.func5, Try.ntmps5
    go_upto_region 6 with (fail)
    have hM : Ext (w.alloc (.cells #[.int .i64 t, .int .i64 c, .int .i64 mt, .int .i64 mc, .slice A n cp, .int .u16 rn, .int .u8 fn] 45)) ((w.alloc (.cells #[.int .i64 t, .int .i64 c, .int .i64 mt, .int .i64 mc, .slice A n cp, .int .u16 rn, .int .u8 fn] 45)).alloc (.cells #[.int .i64 mt, .int .i64 mc, .slice A n cp] 42)) := (Below.refl _ _).alloc (Nat.le_refl _) _
    replace hE := hE.trans hM
    go_wp2_with fail
    refine (shown9_any _).mono ?_
    rintro e w1 ⟨rfl, hx1⟩
    have m0 := hx1.cell (p := ⟨w.heap.size + 1, 0, none⟩) (v := .int .i64 mt) (by simp [go_sem])
    have m1 := hx1.cell (p := ⟨w.heap.size + 1, 1, none⟩) (v := .int .i64 mc) (by simp [go_sem])
    have m2 := hx1.cell (p := ⟨w.heap.size + 1, 2, none⟩) (v := .slice A n cp) (by simp [go_sem])
    replace hE := hE.trans hx1
    clear hx1 hM
    go_wp2
    go_ret
    exact ⟨rfl, hE⟩
set_option maxRecDepth 100000 in
set_option maxHeartbeats 4000000 in
theorem ctells_yes (t c : Nat) (ht1 : 1 ≤ t) (ht2 : t ≤ 64) (hc : c ≤ 400) (mt mc : Int) (A : Option Addr) (n cp : Nat) (rn fn : Nat) (w : World) (hn : n ≤ 4000) (hr : rn < 65536) (hf : fn < 256) :
    Calls Try.prog 5 #[.agg #[.int .i64 (t : Int), .int .i64 (c : Int), .int .i64 mt, .int .i64 mc, .slice A n cp, .int .u16 rn, .int .u8 fn]] w fun e w' => e = .returned (.bool true) ∧ Ext w w' := by
  have hE : Ext w (w.alloc (.cells #[.int .i64 (t : Int), .int .i64 (c : Int), .int .i64 mt, .int .i64 mc, .slice A n cp, .int .u16 rn, .int .u8 fn] 45)) := (Below.refl _ w).alloc (Nat.le_refl _) _
  obtain ⟨B, hB, hB1⟩ := and63 (t : Int)
  have hF : (fn : Int) % 8 = ((fn % 8 : Nat) : Int) := by omega
  have hF1 : fn % 8 < 8 := by omega
  generalize fn % 8 = F at *
  have hLm : memL t c ≤ 100000 := by unfold memL; omega
  have hc1 : ¬ (400 : Int) < (c : Int) := by omega
  go_enter Try.func5, Try.ntmps5
  go_upto_region 6 with (fail)
  have hM : Ext (w.alloc (.cells #[.int .i64 (t : Int), .int .i64 (c : Int), .int .i64 mt, .int .i64 mc, .slice A n cp, .int .u16 rn, .int .u8 fn] 45)) ((w.alloc (.cells #[.int .i64 (t : Int), .int .i64 (c : Int), .int .i64 mt, .int .i64 mc, .slice A n cp, .int .u16 rn, .int .u8 fn] 45)).alloc (.cells #[.int .i64 mt, .int .i64 mc, .slice A n cp] 42)) := (Below.refl _ _).alloc (Nat.le_refl _) _
  replace hE := hE.trans hM
  go_wp2_with fail
  refine (shown9_any _).mono ?_
  rintro e w1 ⟨rfl, hx1⟩
  have m0 := hx1.cell (p := ⟨w.heap.size + 1, 0, none⟩) (v := .int .i64 mt) (by simp [go_sem])
  have m1 := hx1.cell (p := ⟨w.heap.size + 1, 1, none⟩) (v := .int .i64 mc) (by simp [go_sem])
  have m2 := hx1.cell (p := ⟨w.heap.size + 1, 2, none⟩) (v := .slice A n cp) (by simp [go_sem])
  replace hE := hE.trans hx1
  clear hx1 hM
  go_wp2_with fail
  refine (new_yes t c ht1 ht2 (by omega) _).mono ?_
  rintro e w2 ⟨ga, rfl, _, hrow, hx2⟩
  have hV1 := hrow.v (by unfold maxLen; omega) (fun i hi => by have := newF_u64 (t := t) (c := c) (r := c) hi (by omega); omega)
  clear hrow
  have hw2 : Ext w2 (w2.alloc (.cells #[.int .i64 (t : Int), .int .i64 (c : Int), .slice (some ⟨ga, 0, none⟩) (memL t c) (memL t c)] 42)) := (Below.refl _ w2).alloc (Nat.le_refl _) _
  have a0 : (w2.alloc (.cells #[.int .i64 (t : Int), .int .i64 (c : Int), .slice (some ⟨ga, 0, none⟩) (memL t c) (memL t c)] 42)).cell? ⟨w2.heap.size, 0, none⟩ = some (.int .i64 (t : Int)) := by simp [go_sem]
  have a1 : (w2.alloc (.cells #[.int .i64 (t : Int), .int .i64 (c : Int), .slice (some ⟨ga, 0, none⟩) (memL t c) (memL t c)] 42)).cell? ⟨w2.heap.size, 1, none⟩ = some (.int .i64 (c : Int)) := by simp [go_sem]
  have a2 : (w2.alloc (.cells #[.int .i64 (t : Int), .int .i64 (c : Int), .slice (some ⟨ga, 0, none⟩) (memL t c) (memL t c)] 42)).cell? ⟨w2.heap.size, 2, none⟩ = some (.slice (some ⟨ga, 0, none⟩) (memL t c) (memL t c)) := by simp [go_sem]
  replace hx2 := hx2.trans hw2
  replace hE := hE.trans hx2
  replace m0 := hx2.cell m0
  replace m1 := hx2.cell m1
  replace m2 := hx2.cell m2
  replace hV1 := hV1.ext hw2
  have hs2 : w2.heap.size < (w2.alloc (.cells #[.int .i64 (t : Int), .int .i64 (c : Int), .slice (some ⟨ga, 0, none⟩) (memL t c) (memL t c)] 42)).heap.size := by simp
  clear hx2 hw2
  go_upto_region 10 with (fail)
  generalize w2.alloc (.cells #[.int .i64 (t : Int), .int .i64 (c : Int), .slice (some ⟨ga, 0, none⟩) (memL t c) (memL t c)] 42) = W2 at *
  generalize w2.heap.size = ba at *
  go_wp2_with fail
  refine (rnew_yes t c ht1 ht2 (by omega) _).mono ?_
  rintro e w3 ⟨gb, rfl, _, hrow, hx3⟩
  have hV2 := hrow.v (by unfold maxLen; omega) (fun i hi => by have := newF_u64 (t := t) (c := c) (r := c) hi (by omega); omega)
  clear hrow
  have hw3 : Ext w3 (w3.alloc (.cells #[.int .i64 (t : Int), .int .i64 (c : Int), .slice (some ⟨gb, 0, none⟩) (memL t c) (memL t c)] 42)) := (Below.refl _ w3).alloc (Nat.le_refl _) _
  have b0 : (w3.alloc (.cells #[.int .i64 (t : Int), .int .i64 (c : Int), .slice (some ⟨gb, 0, none⟩) (memL t c) (memL t c)] 42)).cell? ⟨w3.heap.size, 0, none⟩ = some (.int .i64 (t : Int)) := by simp [go_sem]
  have b1 : (w3.alloc (.cells #[.int .i64 (t : Int), .int .i64 (c : Int), .slice (some ⟨gb, 0, none⟩) (memL t c) (memL t c)] 42)).cell? ⟨w3.heap.size, 1, none⟩ = some (.int .i64 (c : Int)) := by simp [go_sem]
  have b2 : (w3.alloc (.cells #[.int .i64 (t : Int), .int .i64 (c : Int), .slice (some ⟨gb, 0, none⟩) (memL t c) (memL t c)] 42)).cell? ⟨w3.heap.size, 2, none⟩ = some (.slice (some ⟨gb, 0, none⟩) (memL t c) (memL t c)) := by simp [go_sem]
  replace hx3 := hx3.trans hw3
  replace hE := hE.trans hx3
  replace m0 := hx3.cell m0
  replace m1 := hx3.cell m1
  replace m2 := hx3.cell m2
  replace a0 := hx3.cell a0
  replace a1 := hx3.cell a1
  replace a2 := hx3.cell a2
  replace hV1 := hV1.ext hx3
  replace hV2 := hV2.ext hw3
  clear hx3 hw3 hs2
  go_upto_region 11 with (fail)
  generalize w3.alloc (.cells #[.int .i64 (t : Int), .int .i64 (c : Int), .slice (some ⟨gb, 0, none⟩) (memL t c) (memL t c)] 42) = W3 at *
  generalize w3.heap.size = bb at *
  have hall : ∀ wx, Ext W3.drew wx → wx.cell? ⟨w.heap.size + 1, 0, none⟩ = some (.int .i64 mt) ∧ wx.cell? ⟨w.heap.size + 1, 1, none⟩ = some (.int .i64 mc) ∧ wx.cell? ⟨w.heap.size + 1, 2, none⟩ = some (.slice A n cp) ∧
      wx.cell? ⟨ba, 0, none⟩ = some (.int .i64 (t : Int)) ∧ wx.cell? ⟨ba, 1, none⟩ = some (.int .i64 (c : Int)) ∧ wx.cell? ⟨ba, 2, none⟩ = some (.slice (some ⟨ga, 0, none⟩) (memL t c) (memL t c)) ∧
      wx.cell? ⟨bb, 0, none⟩ = some (.int .i64 (t : Int)) ∧ wx.cell? ⟨bb, 1, none⟩ = some (.int .i64 (c : Int)) ∧ wx.cell? ⟨bb, 2, none⟩ = some (.slice (some ⟨gb, 0, none⟩) (memL t c) (memL t c)) := fun wx hx =>
    ⟨hx.drawn.cell m0, hx.drawn.cell m1, hx.drawn.cell m2, hx.drawn.cell a0, hx.drawn.cell a1, hx.drawn.cell a2, hx.drawn.cell b0, hx.drawn.cell b1, hx.drawn.cell b2⟩
  clear m0 m1 m2 a0 a1 a2 b0 b1 b2
  go_wp2_with fail
  try rw [hB]
  try rw [hF]
  have HB := Lib.hid hB
  have HF := Lib.hid hF
  clear hB hF
  have hw1 : IntKind.i64.wrap (1 + (B : Int) - 1) = (B : Int) := by rw [IntKind.wrap_i64]; omega
  have hw2 : IntKind.i64.wrap (1 + (rn : Int)) = 1 + (rn : Int) := by rw [IntKind.wrap_i64]; omega
  refine' wp_region_sure_all ⟨((some 60, [], none) :: (some 61, [0], none) :: (some 62, [1], some (1, true)) :: (some 63, [1], some (1, true)) :: (some 64, [2, 3, 1, 1], some (1, true)) :: (some 65, [1, 4], none) :: (some 66, [5, 4], none) :: (some 67, [6], some (6, true)) :: (some 68, [6], some (6, true)) :: (some 69, [7, 8, 6], some (6, true)) :: (some 70, [6, 9], none) :: (some 71, [10, 6], none) :: (some 72, [11], some (11, true)) :: (some 73, [12, 11, 11], some (11, true)) :: (some 74, [11], some (11, true)) :: (some 75, [14, 13, 11], some (11, true)) :: (some 76, [13, 15, 11], some (11, true)) :: (some 77, [11, 16], none) :: (some 78, [17, 15], none) :: (some 79, [18], some (18, true)) :: (some 80, [19, 18], some (18, true)) :: (some 81, [20, 18, 18], some (18, true)) :: (some 82, [18], some (18, true)) :: (some 83, [22, 18], some (18, true)) :: (some 84, [23, 21, 18], some (18, true)) :: (some 85, [21, 24, 18], some (18, true)) :: (some 86, [18, 25], none) :: (some 87, [26, 24], none) :: (some 88, [27], some (27, true)) :: (some 89, [27], some (27, true)) :: (some 90, [29, 27], some (27, true)) :: (some 91, [27], some (27, true)) :: (some 92, [28, 30, 31, 27, 27], some (27, true)) :: (some 93, [27], some (27, true)) :: (some 94, [27], some (27, true)) :: (some 95, [34, 27], some (27, true)) :: (some 96, [27], some (27, true)) :: (some 97, [33, 35, 36, 32, 27], some (27, true)) :: (some 98, [32, 37, 27], some (27, true)) :: (some 99, [27, 38], none) :: (some 100, [39, 37], none) :: (some 101, [40], some (40, true)) :: (some 102, [40], some (40, true)) :: (some 103, [41, 42, 40, 40], some (40, true)) :: (some 104, [40], some (40, true)) :: (some 105, [40], some (40, true)) :: (some 106, [44, 45, 43, 40], some (40, true)) :: (some 107, [43, 46, 40], some (40, true)) :: (some 108, [40, 47], none) :: (some 2, [48, 46, 0, 1, 2, 3, 4, 5, 6, 7, 8, 9, 10, 11, 12, 13, 14, 15, 16, 17, 18, 19, 20, 21, 22, 23, 24, 25, 26, 27, 28, 29, 30, 31, 32, 33, 34, 35, 36, 37, 38, 39, 40, 41, 42, 43, 44, 45, 46, 47, 48], none) :: []), (0 :: 1 :: 3 :: 3 :: 15 :: 31 :: 63 :: 127 :: 127 :: 511 :: 1023 :: 2047 :: 4095 :: 8191 :: 4095 :: 32767 :: 65535 :: 131071 :: 262143 :: 524287 :: 1048575 :: 2097151 :: 524287 :: 4718591 :: 16777215 :: 33554431 :: 67108863 :: 134217727 :: 268435455 :: 268435455 :: 805306367 :: 268435455 :: 4294967295 :: 268435455 :: 268435455 :: 17448304639 :: 268435455 :: 137438953471 :: 274877906943 :: 549755813887 :: 1099511627775 :: 2199023255551 :: 2199023255551 :: 8796093022207 :: 2199023255551 :: 2199023255551 :: 70368744177663 :: 140737488355327 :: 281474976710655 :: 562949953421311 :: []), (true :: true :: true :: true :: true :: true :: true :: true :: true :: true :: true :: true :: true :: true :: true :: true :: true :: true :: true :: true :: true :: true :: true :: true :: true :: true :: true :: true :: true :: true :: true :: true :: true :: true :: true :: true :: true :: true :: true :: true :: true :: true :: true :: true :: true :: true :: true :: true :: true :: true :: []), [], 0⟩ 50 109 ((0, 60) :: (1, 61) :: (2, 62) :: (3, 63) :: (4, 64) :: (5, 65) :: (6, 66) :: (7, 67) :: (8, 68) :: (9, 69) :: (10, 70) :: (11, 71) :: (12, 72) :: (13, 73) :: (14, 74) :: (15, 75) :: (16, 76) :: (17, 77) :: (18, 78) :: (19, 79) :: (20, 80) :: (21, 81) :: (22, 82) :: (23, 83) :: (24, 84) :: (25, 85) :: (26, 86) :: (27, 87) :: (28, 88) :: (29, 89) :: (30, 90) :: (31, 91) :: (32, 92) :: (33, 93) :: (34, 94) :: (35, 95) :: (36, 96) :: (37, 97) :: (38, 98) :: (39, 99) :: (40, 100) :: (41, 101) :: (42, 102) :: (43, 103) :: (44, 104) :: (45, 105) :: (46, 106) :: (47, 107) :: (48, 108) :: (49, 2) :: []) ((0, 60) :: (1, 61) :: (2, 62) :: (3, 63) :: (4, 64) :: (5, 65) :: (6, 66) :: (7, 67) :: (8, 68) :: (9, 69) :: (10, 70) :: (11, 71) :: (12, 72) :: (13, 73) :: (14, 74) :: (15, 75) :: (16, 76) :: (17, 77) :: (18, 78) :: (19, 79) :: (20, 80) :: (21, 81) :: (22, 82) :: (23, 83) :: (24, 84) :: (25, 85) :: (26, 86) :: (27, 87) :: (28, 88) :: (29, 89) :: (30, 90) :: (31, 91) :: (32, 92) :: (33, 93) :: (34, 94) :: (35, 95) :: (36, 96) :: (37, 97) :: (38, 98) :: (39, 99) :: (40, 100) :: (41, 101) :: (42, 102) :: (43, 103) :: (44, 104) :: (45, 105) :: (46, 106) :: (47, 107) :: (48, 108) :: (49, 2) :: []) (.det _ :: .det _ :: .det _ :: .det _ :: .det _ :: .det _ :: .det _ :: .det _ :: .det _ :: .det _ :: .det _ :: .det _ :: .det _ :: .det _ :: .det _ :: .det _ :: .det _ :: .det _ :: .det _ :: .det _ :: .det _ :: .det _ :: .det _ :: .det _ :: .det _ :: .det _ :: .det _ :: .det _ :: .det _ :: .det _ :: .det _ :: .det _ :: .det _ :: .det _ :: .det _ :: .det _ :: .det _ :: .det _ :: .det _ :: .det _ :: .det _ :: .det _ :: .det _ :: .det _ :: .det _ :: .det _ :: .det _ :: .det _ :: .det _ :: .det _ :: []) (by kernel_rfl) (by kernel_rfl) (by kernel_rfl) rfl (by kernel_rfl) (by kernel_rfl) rfl (by kernel_rfl) ?hone ?hend
  case hone =>
    intro CS frS VS hCS ha hV
    have qs5 := slot_val (t := 5) ha rfl
    simp only [List.getElem_toArray, List.getElem_cons_succ, List.getElem_cons_zero] at qs5
    have qs8 := slot_val (t := 8) ha rfl
    simp only [List.getElem_toArray, List.getElem_cons_succ, List.getElem_cons_zero] at qs8
    have qs9 := slot_val (t := 9) ha rfl
    simp only [List.getElem_toArray, List.getElem_cons_succ, List.getElem_cons_zero] at qs9
    have qs10 := slot_val (t := 10) ha rfl
    simp only [List.getElem_toArray, List.getElem_cons_succ, List.getElem_cons_zero] at qs10
    have qs11 := slot_val (t := 11) ha rfl
    simp only [List.getElem_toArray, List.getElem_cons_succ, List.getElem_cons_zero] at qs11
    have qs12 := slot_val (t := 12) ha rfl
    simp only [List.getElem_toArray, List.getElem_cons_succ, List.getElem_cons_zero] at qs12
    have qs13 := slot_val (t := 13) ha rfl
    simp only [List.getElem_toArray, List.getElem_cons_succ, List.getElem_cons_zero] at qs13
    have qs14 := slot_val (t := 14) ha rfl
    simp only [List.getElem_toArray, List.getElem_cons_succ, List.getElem_cons_zero] at qs14
    have qs15 := slot_val (t := 15) ha rfl
    simp only [List.getElem_toArray, List.getElem_cons_succ, List.getElem_cons_zero] at qs15
    have HCS := Lib.hid hCS
    have HVS := Lib.hid hV
    clear ha hCS hV
    -- 0: slot 60 := Op.move t8
    refine sure_det (js := []) (ts := [8]) (gd := none) (place_at HVS.out (k := 0) rfl) (by rw [HCS.out]; kernel_rfl) ?_ ?_
    · intro wx hx ρ hρ hs hf
      have hρc := hρ.const
      have hρf := hρ.func
      obtain ⟨fx8, -⟩ := hf
      rw [qs8] at fx8
      clear hs
      clear HCS HVS qs5 qs8 qs9 qs10 qs11 qs12 qs13 qs14 qs15
      refine run_plain ?_
      refine op_move rfl fx8 ?_
      exact detK.mk
    -- 1: slot 61 := Op.move t60
    refine sure_det (js := [(0, 60)]) (ts := []) (gd := none) (place_at HVS.out (k := 1) rfl) (by rw [HCS.out]; kernel_rfl) ?_ ?_
    · intro wx hx ρ hρ hs hf
      have hρc := hρ.const
      have hρf := hρ.func
      obtain ⟨sn0, -⟩ := hs
      rw [place_at HVS.out (k := 0) rfl] at sn0
      replace sn0 : ρ (.tmp 60) = _ := sn0
      clear hf
      clear HCS HVS qs5 qs8 qs9 qs10 qs11 qs12 qs13 qs14 qs15
      refine run_plain ?_
      refine op_move rfl sn0 ?_
      exact detK.mk
    -- 2: slot 62 := Op.load 42 t9
    refine sure_det (js := [(1, 61)]) (ts := [9]) (gd := (some (61, true))) (place_at HVS.out (k := 2) rfl) (by rw [HCS.out]; kernel_rfl) ?_ ?_
    · intro wx hx ρ hρ hs hf
      have hρc := hρ.const
      have hρf := hρ.func
      obtain ⟨sn1, -⟩ := hs
      obtain ⟨fx9, -⟩ := hf
      rw [qs9] at fx9
      rw [place_at HVS.out (k := 1) rfl] at sn1
      replace sn1 : ρ (.tmp 61) = _ := sn1
      clear HCS HVS qs5 qs8 qs9 qs10 qs11 qs12 qs13 qs14 qs15
      first
        | (refine run_passed sn1 ?_
           exact detK.mk)
        | (refine run_guarded sn1 ?_
           obtain ⟨m0, m1, m2, a0, a1, a2, b0, b1, b2⟩ := hall wx hx
           unfold runs
           go_simp
           exact detK.mk)
    -- 3: slot 63 := Op.load 42 t11
    refine sure_det (js := [(1, 61)]) (ts := [11]) (gd := (some (61, true))) (place_at HVS.out (k := 3) rfl) (by rw [HCS.out]; kernel_rfl) ?_ ?_
    · intro wx hx ρ hρ hs hf
      have hρc := hρ.const
      have hρf := hρ.func
      obtain ⟨sn1, -⟩ := hs
      obtain ⟨fx11, -⟩ := hf
      rw [qs11] at fx11
      rw [place_at HVS.out (k := 1) rfl] at sn1
      replace sn1 : ρ (.tmp 61) = _ := sn1
      clear HCS HVS qs5 qs8 qs9 qs10 qs11 qs12 qs13 qs14 qs15
      first
        | (refine run_passed sn1 ?_
           exact detK.mk)
        | (refine run_guarded sn1 ?_
           obtain ⟨m0, m1, m2, a0, a1, a2, b0, b1, b2⟩ := hall wx hx
           unfold runs
           go_simp
           exact detK.mk)
    -- 4: slot 64 := Op.call { call ( 24), args := #[t62, t63], argTypes := #[42, 42] }
    refine sure_det (js := [(2, 62), (3, 63), (1, 61)]) (ts := []) (gd := (some (61, true))) (place_at HVS.out (k := 4) rfl) (by rw [HCS.out]; kernel_rfl) ?_ ?_
    · intro wx hx ρ hρ hs hf
      have hρc := hρ.const
      have hρf := hρ.func
      obtain ⟨sn2, sn3, sn1, -⟩ := hs
      rw [place_at HVS.out (k := 2) rfl] at sn2
      replace sn2 : ρ (.tmp 62) = _ := sn2
      rw [place_at HVS.out (k := 3) rfl] at sn3
      replace sn3 : ρ (.tmp 63) = _ := sn3
      rw [place_at HVS.out (k := 1) rfl] at sn1
      replace sn1 : ρ (.tmp 61) = _ := sn1
      clear hf
      clear HCS HVS qs5 qs8 qs9 qs10 qs11 qs12 qs13 qs14 qs15
      first
        | (refine run_passed sn1 ?_
           exact detK.mk)
        | (refine run_guarded sn1 ?_
           refine op_call rfl hρ Try.call24 (map_two sn2 sn3) ?_
           refine Calls.mono (msame_yes (t : Int) (c : Int) _ _ _ _ _ _ _ (hV1.ext hx.drawn) (hV2.ext hx.drawn) (by omega)) ?_
           rintro e w' ⟨rfl, hx5⟩
           refine ⟨_, rfl, ?_⟩
           exact detK.ext hx5)
    -- 5: slot 65 := Op.pick t61 t64 ((Value.bool false))
    refine sure_det (js := [(1, 61), (4, 64)]) (ts := []) (gd := none) (place_at HVS.out (k := 5) rfl) (by rw [HCS.out]; kernel_rfl) ?_ ?_
    · intro wx hx ρ hρ hs hf
      have hρc := hρ.const
      have hρf := hρ.func
      obtain ⟨sn1, sn4, -⟩ := hs
      rw [place_at HVS.out (k := 1) rfl] at sn1
      replace sn1 : ρ (.tmp 61) = _ := sn1
      rw [place_at HVS.out (k := 4) rfl] at sn4
      replace sn4 : ρ (.tmp 64) = _ := sn4
      clear hf
      clear HCS HVS qs5 qs8 qs9 qs10 qs11 qs12 qs13 qs14 qs15
      refine run_plain ?_
      first | refine op_pick_t rfl sn1 sn4 ?_ | refine op_pick_f rfl sn1 (hρ.const _) ?_
      exact detK.mk
    -- 6: slot 66 := Op.move t65
    refine sure_det (js := [(5, 65)]) (ts := []) (gd := none) (place_at HVS.out (k := 6) rfl) (by rw [HCS.out]; kernel_rfl) ?_ ?_
    · intro wx hx ρ hρ hs hf
      have hρc := hρ.const
      have hρf := hρ.func
      obtain ⟨sn5, -⟩ := hs
      rw [place_at HVS.out (k := 5) rfl] at sn5
      replace sn5 : ρ (.tmp 65) = _ := sn5
      clear hf
      clear HCS HVS qs5 qs8 qs9 qs10 qs11 qs12 qs13 qs14 qs15
      refine run_plain ?_
      refine op_move rfl sn5 ?_
      exact detK.mk
    -- 7: slot 67 := Op.move t10
    refine sure_det (js := [(6, 66)]) (ts := [10]) (gd := (some (66, true))) (place_at HVS.out (k := 7) rfl) (by rw [HCS.out]; kernel_rfl) ?_ ?_
    · intro wx hx ρ hρ hs hf
      have hρc := hρ.const
      have hρf := hρ.func
      obtain ⟨sn6, -⟩ := hs
      obtain ⟨fx10, -⟩ := hf
      rw [qs10] at fx10
      rw [place_at HVS.out (k := 6) rfl] at sn6
      replace sn6 : ρ (.tmp 66) = _ := sn6
      clear HCS HVS qs5 qs8 qs9 qs10 qs11 qs12 qs13 qs14 qs15
      first
        | (refine run_passed sn6 ?_
           exact detK.mk)
        | (refine run_guarded sn6 ?_
           refine op_move rfl fx10 ?_
           exact detK.mk)
    -- 8: slot 68 := Op.move t12
    refine sure_det (js := [(6, 66)]) (ts := [12]) (gd := (some (66, true))) (place_at HVS.out (k := 8) rfl) (by rw [HCS.out]; kernel_rfl) ?_ ?_
    · intro wx hx ρ hρ hs hf
      have hρc := hρ.const
      have hρf := hρ.func
      obtain ⟨sn6, -⟩ := hs
      obtain ⟨fx12, -⟩ := hf
      rw [qs12] at fx12
      rw [place_at HVS.out (k := 6) rfl] at sn6
      replace sn6 : ρ (.tmp 66) = _ := sn6
      clear HCS HVS qs5 qs8 qs9 qs10 qs11 qs12 qs13 qs14 qs15
      first
        | (refine run_passed sn6 ?_
           exact detK.mk)
        | (refine run_guarded sn6 ?_
           refine op_move rfl fx12 ?_
           exact detK.mk)
    -- 9: slot 69 := Op.binOp BinOp.eql 3 t67 t68 3
    refine sure_det (js := [(7, 67), (8, 68), (6, 66)]) (ts := []) (gd := (some (66, true))) (place_at HVS.out (k := 9) rfl) (by rw [HCS.out]; kernel_rfl) ?_ ?_
    · intro wx hx ρ hρ hs hf
      have hρc := hρ.const
      have hρf := hρ.func
      obtain ⟨sn7, sn8, sn6, -⟩ := hs
      rw [place_at HVS.out (k := 7) rfl] at sn7
      replace sn7 : ρ (.tmp 67) = _ := sn7
      rw [place_at HVS.out (k := 8) rfl] at sn8
      replace sn8 : ρ (.tmp 68) = _ := sn8
      rw [place_at HVS.out (k := 6) rfl] at sn6
      replace sn6 : ρ (.tmp 66) = _ := sn6
      clear hf
      clear HCS HVS qs5 qs8 qs9 qs10 qs11 qs12 qs13 qs14 qs15
      first
        | (refine run_passed sn6 ?_
           exact detK.mk)
        | (refine run_guarded sn6 ?_
           unfold runs
           go_simp
           exact detK.mk)
    -- 10: slot 70 := Op.pick t66 t69 ((Value.bool false))
    refine sure_det (js := [(6, 66), (9, 69)]) (ts := []) (gd := none) (place_at HVS.out (k := 10) rfl) (by rw [HCS.out]; kernel_rfl) ?_ ?_
    · intro wx hx ρ hρ hs hf
      have hρc := hρ.const
      have hρf := hρ.func
      obtain ⟨sn6, sn9, -⟩ := hs
      rw [place_at HVS.out (k := 6) rfl] at sn6
      replace sn6 : ρ (.tmp 66) = _ := sn6
      rw [place_at HVS.out (k := 9) rfl] at sn9
      replace sn9 : ρ (.tmp 69) = _ := sn9
      clear hf
      clear HCS HVS qs5 qs8 qs9 qs10 qs11 qs12 qs13 qs14 qs15
      refine run_plain ?_
      first | refine op_pick_t rfl sn6 sn9 ?_ | refine op_pick_f rfl sn6 (hρ.const _) ?_
      exact detK.mk
    -- 11: slot 71 := Op.move t70
    refine sure_det (js := [(10, 70)]) (ts := []) (gd := none) (place_at HVS.out (k := 11) rfl) (by rw [HCS.out]; kernel_rfl) ?_ ?_
    · intro wx hx ρ hρ hs hf
      have hρc := hρ.const
      have hρf := hρ.func
      obtain ⟨sn10, -⟩ := hs
      rw [place_at HVS.out (k := 10) rfl] at sn10
      replace sn10 : ρ (.tmp 70) = _ := sn10
      clear hf
      clear HCS HVS qs5 qs8 qs9 qs10 qs11 qs12 qs13 qs14 qs15
      refine run_plain ?_
      refine op_move rfl sn10 ?_
      exact detK.mk
    -- 12: slot 72 := Op.load 42 t5
    refine sure_det (js := [(11, 71)]) (ts := [5]) (gd := (some (71, true))) (place_at HVS.out (k := 12) rfl) (by rw [HCS.out]; kernel_rfl) ?_ ?_
    · intro wx hx ρ hρ hs hf
      have hρc := hρ.const
      have hρf := hρ.func
      obtain ⟨sn11, -⟩ := hs
      obtain ⟨fx5, -⟩ := hf
      rw [qs5] at fx5
      rw [place_at HVS.out (k := 11) rfl] at sn11
      replace sn11 : ρ (.tmp 71) = _ := sn11
      clear HCS HVS qs5 qs8 qs9 qs10 qs11 qs12 qs13 qs14 qs15
      first
        | (refine run_passed sn11 ?_
           exact detK.mk)
        | (refine run_guarded sn11 ?_
           obtain ⟨m0, m1, m2, a0, a1, a2, b0, b1, b2⟩ := hall wx hx
           unfold runs
           go_simp
           exact detK.mk)
    -- 13: slot 73 := Op.call { call ( 25), args := #[t72], argTypes := #[42] }
    refine sure_det (js := [(12, 72), (11, 71)]) (ts := []) (gd := (some (71, true))) (place_at HVS.out (k := 13) rfl) (by rw [HCS.out]; kernel_rfl) ?_ ?_
    · intro wx hx ρ hρ hs hf
      have hρc := hρ.const
      have hρf := hρ.func
      obtain ⟨sn12, sn11, -⟩ := hs
      rw [place_at HVS.out (k := 12) rfl] at sn12
      replace sn12 : ρ (.tmp 72) = _ := sn12
      rw [place_at HVS.out (k := 11) rfl] at sn11
      replace sn11 : ρ (.tmp 71) = _ := sn11
      clear hf
      clear HCS HVS qs5 qs8 qs9 qs10 qs11 qs12 qs13 qs14 qs15
      first
        | (refine run_passed sn11 ?_
           exact detK.mk)
        | (refine run_guarded sn11 ?_
           refine op_call rfl hρ Try.call25 (map_one sn12) ?_
           first | ((with_reducible refine Calls.mono (cright_any _ _ _ _ _ _) ?_); rintro e w' ⟨rfl, hx5⟩; refine ⟨_, rfl, ?_⟩; exact detK.ext hx5) | ((with_reducible refine Calls.mono (mright_any _ _ _ _ _ _) ?_); rintro e w' ⟨rfl, hx5⟩; refine ⟨_, rfl, ?_⟩; exact detK.ext hx5) | ((with_reducible refine Calls.mono (pin_any _ (by omega) (by omega) _) ?_); rintro e w' ⟨rfl, rfl⟩; refine ⟨_, rfl, ?_⟩; exact detK.mk) | ((with_reducible refine Calls.mono (rpin_any _ (by omega) (by omega) _) ?_); rintro e w' ⟨rfl, rfl⟩; refine ⟨_, rfl, ?_⟩; exact detK.mk) | ((with_reducible refine Calls.mono (field_any _ _ _ (by omega) (by omega) (by omega) (by omega) (by omega) (by omega) _) ?_); rintro e w' ⟨rfl, rfl⟩; refine ⟨_, rfl, ?_⟩; exact detK.mk) | ((with_reducible refine Calls.mono (rfield_any _ _ _ (by omega) (by omega) (by omega) (by omega) (by omega) (by omega) _) ?_); rintro e w' ⟨rfl, rfl⟩; refine ⟨_, rfl, ?_⟩; exact detK.mk) | ((with_reducible refine Calls.mono (next_any _ _ (by omega) (by omega) (by omega) (by omega) _) ?_); rintro e w' ⟨rfl, rfl⟩; refine ⟨_, rfl, ?_⟩; exact detK.mk) | ((with_reducible refine Calls.mono (rnext_any _ _ (by omega) (by omega) (by omega) (by omega) _) ?_); rintro e w' ⟨rfl, rfl⟩; refine ⟨_, rfl, ?_⟩; exact detK.mk))
    -- 14: slot 74 := Op.load 42 t5
    refine sure_det (js := [(11, 71)]) (ts := [5]) (gd := (some (71, true))) (place_at HVS.out (k := 14) rfl) (by rw [HCS.out]; kernel_rfl) ?_ ?_
    · intro wx hx ρ hρ hs hf
      have hρc := hρ.const
      have hρf := hρ.func
      obtain ⟨sn11, -⟩ := hs
      obtain ⟨fx5, -⟩ := hf
      rw [qs5] at fx5
      rw [place_at HVS.out (k := 11) rfl] at sn11
      replace sn11 : ρ (.tmp 71) = _ := sn11
      clear HCS HVS qs5 qs8 qs9 qs10 qs11 qs12 qs13 qs14 qs15
      first
        | (refine run_passed sn11 ?_
           exact detK.mk)
        | (refine run_guarded sn11 ?_
           obtain ⟨m0, m1, m2, a0, a1, a2, b0, b1, b2⟩ := hall wx hx
           unfold runs
           go_simp
           exact detK.mk)
    -- 15: slot 75 := Op.call { call ( 26), args := #[t74], argTypes := #[42] }
    refine sure_det (js := [(14, 74), (11, 71)]) (ts := []) (gd := (some (71, true))) (place_at HVS.out (k := 15) rfl) (by rw [HCS.out]; kernel_rfl) ?_ ?_
    · intro wx hx ρ hρ hs hf
      have hρc := hρ.const
      have hρf := hρ.func
      obtain ⟨sn14, sn11, -⟩ := hs
      rw [place_at HVS.out (k := 14) rfl] at sn14
      replace sn14 : ρ (.tmp 74) = _ := sn14
      rw [place_at HVS.out (k := 11) rfl] at sn11
      replace sn11 : ρ (.tmp 71) = _ := sn11
      clear hf
      clear HCS HVS qs5 qs8 qs9 qs10 qs11 qs12 qs13 qs14 qs15
      first
        | (refine run_passed sn11 ?_
           exact detK.mk)
        | (refine run_guarded sn11 ?_
           refine op_call rfl hρ Try.call26 (map_one sn14) ?_
           first | ((with_reducible refine Calls.mono (cright_any _ _ _ _ _ _) ?_); rintro e w' ⟨rfl, hx5⟩; refine ⟨_, rfl, ?_⟩; exact detK.ext hx5) | ((with_reducible refine Calls.mono (mright_any _ _ _ _ _ _) ?_); rintro e w' ⟨rfl, hx5⟩; refine ⟨_, rfl, ?_⟩; exact detK.ext hx5) | ((with_reducible refine Calls.mono (pin_any _ (by omega) (by omega) _) ?_); rintro e w' ⟨rfl, rfl⟩; refine ⟨_, rfl, ?_⟩; exact detK.mk) | ((with_reducible refine Calls.mono (rpin_any _ (by omega) (by omega) _) ?_); rintro e w' ⟨rfl, rfl⟩; refine ⟨_, rfl, ?_⟩; exact detK.mk) | ((with_reducible refine Calls.mono (field_any _ _ _ (by omega) (by omega) (by omega) (by omega) (by omega) (by omega) _) ?_); rintro e w' ⟨rfl, rfl⟩; refine ⟨_, rfl, ?_⟩; exact detK.mk) | ((with_reducible refine Calls.mono (rfield_any _ _ _ (by omega) (by omega) (by omega) (by omega) (by omega) (by omega) _) ?_); rintro e w' ⟨rfl, rfl⟩; refine ⟨_, rfl, ?_⟩; exact detK.mk) | ((with_reducible refine Calls.mono (next_any _ _ (by omega) (by omega) (by omega) (by omega) _) ?_); rintro e w' ⟨rfl, rfl⟩; refine ⟨_, rfl, ?_⟩; exact detK.mk) | ((with_reducible refine Calls.mono (rnext_any _ _ (by omega) (by omega) (by omega) (by omega) _) ?_); rintro e w' ⟨rfl, rfl⟩; refine ⟨_, rfl, ?_⟩; exact detK.mk))
    -- 16: slot 76 := Op.binOp BinOp.eql 4 t73 t75 4
    refine sure_det (js := [(13, 73), (15, 75), (11, 71)]) (ts := []) (gd := (some (71, true))) (place_at HVS.out (k := 16) rfl) (by rw [HCS.out]; kernel_rfl) ?_ ?_
    · intro wx hx ρ hρ hs hf
      have hρc := hρ.const
      have hρf := hρ.func
      obtain ⟨sn13, sn15, sn11, -⟩ := hs
      rw [place_at HVS.out (k := 13) rfl] at sn13
      replace sn13 : ρ (.tmp 73) = _ := sn13
      rw [place_at HVS.out (k := 15) rfl] at sn15
      replace sn15 : ρ (.tmp 75) = _ := sn15
      rw [place_at HVS.out (k := 11) rfl] at sn11
      replace sn11 : ρ (.tmp 71) = _ := sn11
      clear hf
      clear HCS HVS qs5 qs8 qs9 qs10 qs11 qs12 qs13 qs14 qs15
      first
        | (refine run_passed sn11 ?_
           exact detK.mk)
        | (refine run_guarded sn11 ?_
           unfold runs
           go_simp
           exact detK.mk)
    -- 17: slot 77 := Op.pick t71 t76 ((Value.bool false))
    refine sure_det (js := [(11, 71), (16, 76)]) (ts := []) (gd := none) (place_at HVS.out (k := 17) rfl) (by rw [HCS.out]; kernel_rfl) ?_ ?_
    · intro wx hx ρ hρ hs hf
      have hρc := hρ.const
      have hρf := hρ.func
      obtain ⟨sn11, sn16, -⟩ := hs
      rw [place_at HVS.out (k := 11) rfl] at sn11
      replace sn11 : ρ (.tmp 71) = _ := sn11
      rw [place_at HVS.out (k := 16) rfl] at sn16
      replace sn16 : ρ (.tmp 76) = _ := sn16
      clear hf
      clear HCS HVS qs5 qs8 qs9 qs10 qs11 qs12 qs13 qs14 qs15
      refine run_plain ?_
      first | refine op_pick_t rfl sn11 sn16 ?_ | refine op_pick_f rfl sn11 (hρ.const _) ?_
      exact detK.mk
    -- 18: slot 78 := Op.move t77
    refine sure_det (js := [(17, 77)]) (ts := []) (gd := none) (place_at HVS.out (k := 18) rfl) (by rw [HCS.out]; kernel_rfl) ?_ ?_
    · intro wx hx ρ hρ hs hf
      have hρc := hρ.const
      have hρf := hρ.func
      obtain ⟨sn17, -⟩ := hs
      rw [place_at HVS.out (k := 17) rfl] at sn17
      replace sn17 : ρ (.tmp 77) = _ := sn17
      clear hf
      clear HCS HVS qs5 qs8 qs9 qs10 qs11 qs12 qs13 qs14 qs15
      refine run_plain ?_
      refine op_move rfl sn17 ?_
      exact detK.mk
    -- 19: slot 79 := Op.move t13
    refine sure_det (js := [(18, 78)]) (ts := [13]) (gd := (some (78, true))) (place_at HVS.out (k := 19) rfl) (by rw [HCS.out]; kernel_rfl) ?_ ?_
    · intro wx hx ρ hρ hs hf
      have hρc := hρ.const
      have hρf := hρ.func
      obtain ⟨sn18, -⟩ := hs
      obtain ⟨fx13, -⟩ := hf
      rw [qs13] at fx13
      rw [place_at HVS.out (k := 18) rfl] at sn18
      replace sn18 : ρ (.tmp 78) = _ := sn18
      clear HCS HVS qs5 qs8 qs9 qs10 qs11 qs12 qs13 qs14 qs15
      first
        | (refine run_passed sn18 ?_
           exact detK.mk)
        | (refine run_guarded sn18 ?_
           refine op_move rfl fx13 ?_
           exact detK.mk)
    -- 20: slot 80 := Op.binOp BinOp.sub 3 t79 ((i64 1)) 3
    refine sure_det (js := [(19, 79), (18, 78)]) (ts := []) (gd := (some (78, true))) (place_at HVS.out (k := 20) rfl) (by rw [HCS.out]; kernel_rfl) ?_ ?_
    · intro wx hx ρ hρ hs hf
      have hρc := hρ.const
      have hρf := hρ.func
      obtain ⟨sn19, sn18, -⟩ := hs
      rw [place_at HVS.out (k := 19) rfl] at sn19
      replace sn19 : ρ (.tmp 79) = _ := sn19
      rw [place_at HVS.out (k := 18) rfl] at sn18
      replace sn18 : ρ (.tmp 78) = _ := sn18
      clear hf
      clear HCS HVS qs5 qs8 qs9 qs10 qs11 qs12 qs13 qs14 qs15
      first
        | (refine run_passed sn18 ?_
           exact detK.mk)
        | (refine run_guarded sn18 ?_
           unfold runs
           go_simp
           exact detK.mk)
    -- 21: slot 81 := Op.call { call ( 27), args := #[t80], argTypes := #[3] }
    refine sure_det (js := [(20, 80), (18, 78)]) (ts := []) (gd := (some (78, true))) (place_at HVS.out (k := 21) rfl) (by rw [HCS.out]; kernel_rfl) ?_ ?_
    · intro wx hx ρ hρ hs hf
      have hρc := hρ.const
      have hρf := hρ.func
      obtain ⟨sn20, sn18, -⟩ := hs
      rw [place_at HVS.out (k := 20) rfl] at sn20
      replace sn20 : ρ (.tmp 80) = _ := sn20
      rw [place_at HVS.out (k := 18) rfl] at sn18
      replace sn18 : ρ (.tmp 78) = _ := sn18
      clear hf
      clear HCS HVS qs5 qs8 qs9 qs10 qs11 qs12 qs13 qs14 qs15
      first
        | (refine run_passed sn18 ?_
           exact detK.mk)
        | (refine run_guarded sn18 ?_
           refine op_call rfl hρ Try.call27 (map_one sn20) ?_
           first | ((with_reducible refine Calls.mono (cright_any _ _ _ _ _ _) ?_); rintro e w' ⟨rfl, hx5⟩; refine ⟨_, rfl, ?_⟩; exact detK.ext hx5) | ((with_reducible refine Calls.mono (mright_any _ _ _ _ _ _) ?_); rintro e w' ⟨rfl, hx5⟩; refine ⟨_, rfl, ?_⟩; exact detK.ext hx5) | ((with_reducible refine Calls.mono (pin_any _ (by omega) (by omega) _) ?_); rintro e w' ⟨rfl, rfl⟩; refine ⟨_, rfl, ?_⟩; exact detK.mk) | ((with_reducible refine Calls.mono (rpin_any _ (by omega) (by omega) _) ?_); rintro e w' ⟨rfl, rfl⟩; refine ⟨_, rfl, ?_⟩; exact detK.mk) | ((with_reducible refine Calls.mono (field_any _ _ _ (by omega) (by omega) (by omega) (by omega) (by omega) (by omega) _) ?_); rintro e w' ⟨rfl, rfl⟩; refine ⟨_, rfl, ?_⟩; exact detK.mk) | ((with_reducible refine Calls.mono (rfield_any _ _ _ (by omega) (by omega) (by omega) (by omega) (by omega) (by omega) _) ?_); rintro e w' ⟨rfl, rfl⟩; refine ⟨_, rfl, ?_⟩; exact detK.mk) | ((with_reducible refine Calls.mono (next_any _ _ (by omega) (by omega) (by omega) (by omega) _) ?_); rintro e w' ⟨rfl, rfl⟩; refine ⟨_, rfl, ?_⟩; exact detK.mk) | ((with_reducible refine Calls.mono (rnext_any _ _ (by omega) (by omega) (by omega) (by omega) _) ?_); rintro e w' ⟨rfl, rfl⟩; refine ⟨_, rfl, ?_⟩; exact detK.mk))
    -- 22: slot 82 := Op.move t13
    refine sure_det (js := [(18, 78)]) (ts := [13]) (gd := (some (78, true))) (place_at HVS.out (k := 22) rfl) (by rw [HCS.out]; kernel_rfl) ?_ ?_
    · intro wx hx ρ hρ hs hf
      have hρc := hρ.const
      have hρf := hρ.func
      obtain ⟨sn18, -⟩ := hs
      obtain ⟨fx13, -⟩ := hf
      rw [qs13] at fx13
      rw [place_at HVS.out (k := 18) rfl] at sn18
      replace sn18 : ρ (.tmp 78) = _ := sn18
      clear HCS HVS qs5 qs8 qs9 qs10 qs11 qs12 qs13 qs14 qs15
      first
        | (refine run_passed sn18 ?_
           exact detK.mk)
        | (refine run_guarded sn18 ?_
           refine op_move rfl fx13 ?_
           exact detK.mk)
    -- 23: slot 83 := Op.binOp BinOp.sub 3 t82 ((i64 1)) 3
    refine sure_det (js := [(22, 82), (18, 78)]) (ts := []) (gd := (some (78, true))) (place_at HVS.out (k := 23) rfl) (by rw [HCS.out]; kernel_rfl) ?_ ?_
    · intro wx hx ρ hρ hs hf
      have hρc := hρ.const
      have hρf := hρ.func
      obtain ⟨sn22, sn18, -⟩ := hs
      rw [place_at HVS.out (k := 22) rfl] at sn22
      replace sn22 : ρ (.tmp 82) = _ := sn22
      rw [place_at HVS.out (k := 18) rfl] at sn18
      replace sn18 : ρ (.tmp 78) = _ := sn18
      clear hf
      clear HCS HVS qs5 qs8 qs9 qs10 qs11 qs12 qs13 qs14 qs15
      first
        | (refine run_passed sn18 ?_
           exact detK.mk)
        | (refine run_guarded sn18 ?_
           unfold runs
           go_simp
           exact detK.mk)
    -- 24: slot 84 := Op.call { call ( 28), args := #[t83], argTypes := #[3] }
    refine sure_det (js := [(23, 83), (18, 78)]) (ts := []) (gd := (some (78, true))) (place_at HVS.out (k := 24) rfl) (by rw [HCS.out]; kernel_rfl) ?_ ?_
    · intro wx hx ρ hρ hs hf
      have hρc := hρ.const
      have hρf := hρ.func
      obtain ⟨sn23, sn18, -⟩ := hs
      rw [place_at HVS.out (k := 23) rfl] at sn23
      replace sn23 : ρ (.tmp 83) = _ := sn23
      rw [place_at HVS.out (k := 18) rfl] at sn18
      replace sn18 : ρ (.tmp 78) = _ := sn18
      clear hf
      clear HCS HVS qs5 qs8 qs9 qs10 qs11 qs12 qs13 qs14 qs15
      first
        | (refine run_passed sn18 ?_
           exact detK.mk)
        | (refine run_guarded sn18 ?_
           refine op_call rfl hρ Try.call28 (map_one sn23) ?_
           first | ((with_reducible refine Calls.mono (cright_any _ _ _ _ _ _) ?_); rintro e w' ⟨rfl, hx5⟩; refine ⟨_, rfl, ?_⟩; exact detK.ext hx5) | ((with_reducible refine Calls.mono (mright_any _ _ _ _ _ _) ?_); rintro e w' ⟨rfl, hx5⟩; refine ⟨_, rfl, ?_⟩; exact detK.ext hx5) | ((with_reducible refine Calls.mono (pin_any _ (by omega) (by omega) _) ?_); rintro e w' ⟨rfl, rfl⟩; refine ⟨_, rfl, ?_⟩; exact detK.mk) | ((with_reducible refine Calls.mono (rpin_any _ (by omega) (by omega) _) ?_); rintro e w' ⟨rfl, rfl⟩; refine ⟨_, rfl, ?_⟩; exact detK.mk) | ((with_reducible refine Calls.mono (field_any _ _ _ (by omega) (by omega) (by omega) (by omega) (by omega) (by omega) _) ?_); rintro e w' ⟨rfl, rfl⟩; refine ⟨_, rfl, ?_⟩; exact detK.mk) | ((with_reducible refine Calls.mono (rfield_any _ _ _ (by omega) (by omega) (by omega) (by omega) (by omega) (by omega) _) ?_); rintro e w' ⟨rfl, rfl⟩; refine ⟨_, rfl, ?_⟩; exact detK.mk) | ((with_reducible refine Calls.mono (next_any _ _ (by omega) (by omega) (by omega) (by omega) _) ?_); rintro e w' ⟨rfl, rfl⟩; refine ⟨_, rfl, ?_⟩; exact detK.mk) | ((with_reducible refine Calls.mono (rnext_any _ _ (by omega) (by omega) (by omega) (by omega) _) ?_); rintro e w' ⟨rfl, rfl⟩; refine ⟨_, rfl, ?_⟩; exact detK.mk))
    -- 25: slot 85 := Op.binOp BinOp.eql 3 t81 t84 3
    refine sure_det (js := [(21, 81), (24, 84), (18, 78)]) (ts := []) (gd := (some (78, true))) (place_at HVS.out (k := 25) rfl) (by rw [HCS.out]; kernel_rfl) ?_ ?_
    · intro wx hx ρ hρ hs hf
      have hρc := hρ.const
      have hρf := hρ.func
      obtain ⟨sn21, sn24, sn18, -⟩ := hs
      rw [place_at HVS.out (k := 21) rfl] at sn21
      replace sn21 : ρ (.tmp 81) = _ := sn21
      rw [place_at HVS.out (k := 24) rfl] at sn24
      replace sn24 : ρ (.tmp 84) = _ := sn24
      rw [place_at HVS.out (k := 18) rfl] at sn18
      replace sn18 : ρ (.tmp 78) = _ := sn18
      clear hf
      clear HCS HVS qs5 qs8 qs9 qs10 qs11 qs12 qs13 qs14 qs15
      first
        | (refine run_passed sn18 ?_
           exact detK.mk)
        | (refine run_guarded sn18 ?_
           unfold runs
           go_simp
           exact detK.mk)
    -- 26: slot 86 := Op.pick t78 t85 ((Value.bool false))
    refine sure_det (js := [(18, 78), (25, 85)]) (ts := []) (gd := none) (place_at HVS.out (k := 26) rfl) (by rw [HCS.out]; kernel_rfl) ?_ ?_
    · intro wx hx ρ hρ hs hf
      have hρc := hρ.const
      have hρf := hρ.func
      obtain ⟨sn18, sn25, -⟩ := hs
      rw [place_at HVS.out (k := 18) rfl] at sn18
      replace sn18 : ρ (.tmp 78) = _ := sn18
      rw [place_at HVS.out (k := 25) rfl] at sn25
      replace sn25 : ρ (.tmp 85) = _ := sn25
      clear hf
      clear HCS HVS qs5 qs8 qs9 qs10 qs11 qs12 qs13 qs14 qs15
      refine run_plain ?_
      first | refine op_pick_t rfl sn18 sn25 ?_ | refine op_pick_f rfl sn18 (hρ.const _) ?_
      exact detK.mk
    -- 27: slot 87 := Op.move t86
    refine sure_det (js := [(26, 86)]) (ts := []) (gd := none) (place_at HVS.out (k := 27) rfl) (by rw [HCS.out]; kernel_rfl) ?_ ?_
    · intro wx hx ρ hρ hs hf
      have hρc := hρ.const
      have hρf := hρ.func
      obtain ⟨sn26, -⟩ := hs
      rw [place_at HVS.out (k := 26) rfl] at sn26
      replace sn26 : ρ (.tmp 86) = _ := sn26
      clear hf
      clear HCS HVS qs5 qs8 qs9 qs10 qs11 qs12 qs13 qs14 qs15
      refine run_plain ?_
      refine op_move rfl sn26 ?_
      exact detK.mk
    -- 28: slot 88 := Op.move t13
    refine sure_det (js := [(27, 87)]) (ts := [13]) (gd := (some (87, true))) (place_at HVS.out (k := 28) rfl) (by rw [HCS.out]; kernel_rfl) ?_ ?_
    · intro wx hx ρ hρ hs hf
      have hρc := hρ.const
      have hρf := hρ.func
      obtain ⟨sn27, -⟩ := hs
      obtain ⟨fx13, -⟩ := hf
      rw [qs13] at fx13
      rw [place_at HVS.out (k := 27) rfl] at sn27
      replace sn27 : ρ (.tmp 87) = _ := sn27
      clear HCS HVS qs5 qs8 qs9 qs10 qs11 qs12 qs13 qs14 qs15
      first
        | (refine run_passed sn27 ?_
           exact detK.mk)
        | (refine run_guarded sn27 ?_
           refine op_move rfl fx13 ?_
           exact detK.mk)
    -- 29: slot 89 := Op.move t14
    refine sure_det (js := [(27, 87)]) (ts := [14]) (gd := (some (87, true))) (place_at HVS.out (k := 29) rfl) (by rw [HCS.out]; kernel_rfl) ?_ ?_
    · intro wx hx ρ hρ hs hf
      have hρc := hρ.const
      have hρf := hρ.func
      obtain ⟨sn27, -⟩ := hs
      obtain ⟨fx14, -⟩ := hf
      rw [qs14] at fx14
      rw [place_at HVS.out (k := 27) rfl] at sn27
      replace sn27 : ρ (.tmp 87) = _ := sn27
      clear HCS HVS qs5 qs8 qs9 qs10 qs11 qs12 qs13 qs14 qs15
      first
        | (refine run_passed sn27 ?_
           exact detK.mk)
        | (refine run_guarded sn27 ?_
           refine op_move rfl fx14 ?_
           exact detK.mk)
    -- 30: slot 90 := Op.binOp BinOp.add 3 ((i64 1)) t89 3
    refine sure_det (js := [(29, 89), (27, 87)]) (ts := []) (gd := (some (87, true))) (place_at HVS.out (k := 30) rfl) (by rw [HCS.out]; kernel_rfl) ?_ ?_
    · intro wx hx ρ hρ hs hf
      have hρc := hρ.const
      have hρf := hρ.func
      obtain ⟨sn29, sn27, -⟩ := hs
      rw [place_at HVS.out (k := 29) rfl] at sn29
      replace sn29 : ρ (.tmp 89) = _ := sn29
      rw [place_at HVS.out (k := 27) rfl] at sn27
      replace sn27 : ρ (.tmp 87) = _ := sn27
      clear hf
      clear HCS HVS qs5 qs8 qs9 qs10 qs11 qs12 qs13 qs14 qs15
      first
        | (refine run_passed sn27 ?_
           exact detK.mk)
        | (refine run_guarded sn27 ?_
           unfold runs
           go_simp
           exact detK.mk)
    -- 31: slot 91 := Op.move t15
    refine sure_det (js := [(27, 87)]) (ts := [15]) (gd := (some (87, true))) (place_at HVS.out (k := 31) rfl) (by rw [HCS.out]; kernel_rfl) ?_ ?_
    · intro wx hx ρ hρ hs hf
      have hρc := hρ.const
      have hρf := hρ.func
      obtain ⟨sn27, -⟩ := hs
      obtain ⟨fx15, -⟩ := hf
      rw [qs15] at fx15
      rw [place_at HVS.out (k := 27) rfl] at sn27
      replace sn27 : ρ (.tmp 87) = _ := sn27
      clear HCS HVS qs5 qs8 qs9 qs10 qs11 qs12 qs13 qs14 qs15
      first
        | (refine run_passed sn27 ?_
           exact detK.mk)
        | (refine run_guarded sn27 ?_
           refine op_move rfl fx15 ?_
           exact detK.mk)
    -- 32: slot 92 := Op.call { call ( 29), args := #[t88, t90, t91], argTypes := #[3, 3, 3] }
    refine sure_det (js := [(28, 88), (30, 90), (31, 91), (27, 87)]) (ts := []) (gd := (some (87, true))) (place_at HVS.out (k := 32) rfl) (by rw [HCS.out]; kernel_rfl) ?_ ?_
    · intro wx hx ρ hρ hs hf
      have hρc := hρ.const
      have hρf := hρ.func
      obtain ⟨sn28, sn30, sn31, sn27, -⟩ := hs
      rw [place_at HVS.out (k := 28) rfl] at sn28
      replace sn28 : ρ (.tmp 88) = _ := sn28
      rw [place_at HVS.out (k := 30) rfl] at sn30
      replace sn30 : ρ (.tmp 90) = _ := sn30
      rw [place_at HVS.out (k := 31) rfl] at sn31
      replace sn31 : ρ (.tmp 91) = _ := sn31
      rw [place_at HVS.out (k := 27) rfl] at sn27
      replace sn27 : ρ (.tmp 87) = _ := sn27
      clear hf
      clear HCS HVS qs5 qs8 qs9 qs10 qs11 qs12 qs13 qs14 qs15
      first
        | (refine run_passed sn27 ?_
           exact detK.mk)
        | (refine run_guarded sn27 ?_
           refine op_call rfl hρ Try.call29 (map_three sn28 sn30 sn31) ?_
           first | ((with_reducible refine Calls.mono (cright_any _ _ _ _ _ _) ?_); rintro e w' ⟨rfl, hx5⟩; refine ⟨_, rfl, ?_⟩; exact detK.ext hx5) | ((with_reducible refine Calls.mono (mright_any _ _ _ _ _ _) ?_); rintro e w' ⟨rfl, hx5⟩; refine ⟨_, rfl, ?_⟩; exact detK.ext hx5) | ((with_reducible refine Calls.mono (pin_any _ (by omega) (by omega) _) ?_); rintro e w' ⟨rfl, rfl⟩; refine ⟨_, rfl, ?_⟩; exact detK.mk) | ((with_reducible refine Calls.mono (rpin_any _ (by omega) (by omega) _) ?_); rintro e w' ⟨rfl, rfl⟩; refine ⟨_, rfl, ?_⟩; exact detK.mk) | ((with_reducible refine Calls.mono (field_any _ _ _ (by omega) (by omega) (by omega) (by omega) (by omega) (by omega) _) ?_); rintro e w' ⟨rfl, rfl⟩; refine ⟨_, rfl, ?_⟩; exact detK.mk) | ((with_reducible refine Calls.mono (rfield_any _ _ _ (by omega) (by omega) (by omega) (by omega) (by omega) (by omega) _) ?_); rintro e w' ⟨rfl, rfl⟩; refine ⟨_, rfl, ?_⟩; exact detK.mk) | ((with_reducible refine Calls.mono (next_any _ _ (by omega) (by omega) (by omega) (by omega) _) ?_); rintro e w' ⟨rfl, rfl⟩; refine ⟨_, rfl, ?_⟩; exact detK.mk) | ((with_reducible refine Calls.mono (rnext_any _ _ (by omega) (by omega) (by omega) (by omega) _) ?_); rintro e w' ⟨rfl, rfl⟩; refine ⟨_, rfl, ?_⟩; exact detK.mk))
    -- 33: slot 93 := Op.move t13
    refine sure_det (js := [(27, 87)]) (ts := [13]) (gd := (some (87, true))) (place_at HVS.out (k := 33) rfl) (by rw [HCS.out]; kernel_rfl) ?_ ?_
    · intro wx hx ρ hρ hs hf
      have hρc := hρ.const
      have hρf := hρ.func
      obtain ⟨sn27, -⟩ := hs
      obtain ⟨fx13, -⟩ := hf
      rw [qs13] at fx13
      rw [place_at HVS.out (k := 27) rfl] at sn27
      replace sn27 : ρ (.tmp 87) = _ := sn27
      clear HCS HVS qs5 qs8 qs9 qs10 qs11 qs12 qs13 qs14 qs15
      first
        | (refine run_passed sn27 ?_
           exact detK.mk)
        | (refine run_guarded sn27 ?_
           refine op_move rfl fx13 ?_
           exact detK.mk)
    -- 34: slot 94 := Op.move t14
    refine sure_det (js := [(27, 87)]) (ts := [14]) (gd := (some (87, true))) (place_at HVS.out (k := 34) rfl) (by rw [HCS.out]; kernel_rfl) ?_ ?_
    · intro wx hx ρ hρ hs hf
      have hρc := hρ.const
      have hρf := hρ.func
      obtain ⟨sn27, -⟩ := hs
      obtain ⟨fx14, -⟩ := hf
      rw [qs14] at fx14
      rw [place_at HVS.out (k := 27) rfl] at sn27
      replace sn27 : ρ (.tmp 87) = _ := sn27
      clear HCS HVS qs5 qs8 qs9 qs10 qs11 qs12 qs13 qs14 qs15
      first
        | (refine run_passed sn27 ?_
           exact detK.mk)
        | (refine run_guarded sn27 ?_
           refine op_move rfl fx14 ?_
           exact detK.mk)
    -- 35: slot 95 := Op.binOp BinOp.add 3 ((i64 1)) t94 3
    refine sure_det (js := [(34, 94), (27, 87)]) (ts := []) (gd := (some (87, true))) (place_at HVS.out (k := 35) rfl) (by rw [HCS.out]; kernel_rfl) ?_ ?_
    · intro wx hx ρ hρ hs hf
      have hρc := hρ.const
      have hρf := hρ.func
      obtain ⟨sn34, sn27, -⟩ := hs
      rw [place_at HVS.out (k := 34) rfl] at sn34
      replace sn34 : ρ (.tmp 94) = _ := sn34
      rw [place_at HVS.out (k := 27) rfl] at sn27
      replace sn27 : ρ (.tmp 87) = _ := sn27
      clear hf
      clear HCS HVS qs5 qs8 qs9 qs10 qs11 qs12 qs13 qs14 qs15
      first
        | (refine run_passed sn27 ?_
           exact detK.mk)
        | (refine run_guarded sn27 ?_
           unfold runs
           go_simp
           exact detK.mk)
    -- 36: slot 96 := Op.move t15
    refine sure_det (js := [(27, 87)]) (ts := [15]) (gd := (some (87, true))) (place_at HVS.out (k := 36) rfl) (by rw [HCS.out]; kernel_rfl) ?_ ?_
    · intro wx hx ρ hρ hs hf
      have hρc := hρ.const
      have hρf := hρ.func
      obtain ⟨sn27, -⟩ := hs
      obtain ⟨fx15, -⟩ := hf
      rw [qs15] at fx15
      rw [place_at HVS.out (k := 27) rfl] at sn27
      replace sn27 : ρ (.tmp 87) = _ := sn27
      clear HCS HVS qs5 qs8 qs9 qs10 qs11 qs12 qs13 qs14 qs15
      first
        | (refine run_passed sn27 ?_
           exact detK.mk)
        | (refine run_guarded sn27 ?_
           refine op_move rfl fx15 ?_
           exact detK.mk)
    -- 37: slot 97 := Op.call { call ( 30), args := #[t93, t95, t96], argTypes := #[3, 3, 3] }
    refine sure_det (js := [(33, 93), (35, 95), (36, 96), (27, 87)]) (ts := []) (gd := (some (87, true))) (place_at HVS.out (k := 37) rfl) (by rw [HCS.out]; kernel_rfl) ?_ ?_
    · intro wx hx ρ hρ hs hf
      have hρc := hρ.const
      have hρf := hρ.func
      obtain ⟨sn33, sn35, sn36, sn27, -⟩ := hs
      rw [place_at HVS.out (k := 33) rfl] at sn33
      replace sn33 : ρ (.tmp 93) = _ := sn33
      rw [place_at HVS.out (k := 35) rfl] at sn35
      replace sn35 : ρ (.tmp 95) = _ := sn35
      rw [place_at HVS.out (k := 36) rfl] at sn36
      replace sn36 : ρ (.tmp 96) = _ := sn36
      rw [place_at HVS.out (k := 27) rfl] at sn27
      replace sn27 : ρ (.tmp 87) = _ := sn27
      clear hf
      clear HCS HVS qs5 qs8 qs9 qs10 qs11 qs12 qs13 qs14 qs15
      first
        | (refine run_passed sn27 ?_
           exact detK.mk)
        | (refine run_guarded sn27 ?_
           refine op_call rfl hρ Try.call30 (map_three sn33 sn35 sn36) ?_
           first | ((with_reducible refine Calls.mono (cright_any _ _ _ _ _ _) ?_); rintro e w' ⟨rfl, hx5⟩; refine ⟨_, rfl, ?_⟩; exact detK.ext hx5) | ((with_reducible refine Calls.mono (mright_any _ _ _ _ _ _) ?_); rintro e w' ⟨rfl, hx5⟩; refine ⟨_, rfl, ?_⟩; exact detK.ext hx5) | ((with_reducible refine Calls.mono (pin_any _ (by omega) (by omega) _) ?_); rintro e w' ⟨rfl, rfl⟩; refine ⟨_, rfl, ?_⟩; exact detK.mk) | ((with_reducible refine Calls.mono (rpin_any _ (by omega) (by omega) _) ?_); rintro e w' ⟨rfl, rfl⟩; refine ⟨_, rfl, ?_⟩; exact detK.mk) | ((with_reducible refine Calls.mono (field_any _ _ _ (by omega) (by omega) (by omega) (by omega) (by omega) (by omega) _) ?_); rintro e w' ⟨rfl, rfl⟩; refine ⟨_, rfl, ?_⟩; exact detK.mk) | ((with_reducible refine Calls.mono (rfield_any _ _ _ (by omega) (by omega) (by omega) (by omega) (by omega) (by omega) _) ?_); rintro e w' ⟨rfl, rfl⟩; refine ⟨_, rfl, ?_⟩; exact detK.mk) | ((with_reducible refine Calls.mono (next_any _ _ (by omega) (by omega) (by omega) (by omega) _) ?_); rintro e w' ⟨rfl, rfl⟩; refine ⟨_, rfl, ?_⟩; exact detK.mk) | ((with_reducible refine Calls.mono (rnext_any _ _ (by omega) (by omega) (by omega) (by omega) _) ?_); rintro e w' ⟨rfl, rfl⟩; refine ⟨_, rfl, ?_⟩; exact detK.mk))
    -- 38: slot 98 := Op.binOp BinOp.eql 3 t92 t97 3
    refine sure_det (js := [(32, 92), (37, 97), (27, 87)]) (ts := []) (gd := (some (87, true))) (place_at HVS.out (k := 38) rfl) (by rw [HCS.out]; kernel_rfl) ?_ ?_
    · intro wx hx ρ hρ hs hf
      have hρc := hρ.const
      have hρf := hρ.func
      obtain ⟨sn32, sn37, sn27, -⟩ := hs
      rw [place_at HVS.out (k := 32) rfl] at sn32
      replace sn32 : ρ (.tmp 92) = _ := sn32
      rw [place_at HVS.out (k := 37) rfl] at sn37
      replace sn37 : ρ (.tmp 97) = _ := sn37
      rw [place_at HVS.out (k := 27) rfl] at sn27
      replace sn27 : ρ (.tmp 87) = _ := sn27
      clear hf
      clear HCS HVS qs5 qs8 qs9 qs10 qs11 qs12 qs13 qs14 qs15
      first
        | (refine run_passed sn27 ?_
           exact detK.mk)
        | (refine run_guarded sn27 ?_
           unfold runs
           go_simp
           exact detK.mk)
    -- 39: slot 99 := Op.pick t87 t98 ((Value.bool false))
    refine sure_det (js := [(27, 87), (38, 98)]) (ts := []) (gd := none) (place_at HVS.out (k := 39) rfl) (by rw [HCS.out]; kernel_rfl) ?_ ?_
    · intro wx hx ρ hρ hs hf
      have hρc := hρ.const
      have hρf := hρ.func
      obtain ⟨sn27, sn38, -⟩ := hs
      rw [place_at HVS.out (k := 27) rfl] at sn27
      replace sn27 : ρ (.tmp 87) = _ := sn27
      rw [place_at HVS.out (k := 38) rfl] at sn38
      replace sn38 : ρ (.tmp 98) = _ := sn38
      clear hf
      clear HCS HVS qs5 qs8 qs9 qs10 qs11 qs12 qs13 qs14 qs15
      refine run_plain ?_
      first | refine op_pick_t rfl sn27 sn38 ?_ | refine op_pick_f rfl sn27 (hρ.const _) ?_
      exact detK.mk
    -- 40: slot 100 := Op.move t99
    refine sure_det (js := [(39, 99)]) (ts := []) (gd := none) (place_at HVS.out (k := 40) rfl) (by rw [HCS.out]; kernel_rfl) ?_ ?_
    · intro wx hx ρ hρ hs hf
      have hρc := hρ.const
      have hρf := hρ.func
      obtain ⟨sn39, -⟩ := hs
      rw [place_at HVS.out (k := 39) rfl] at sn39
      replace sn39 : ρ (.tmp 99) = _ := sn39
      clear hf
      clear HCS HVS qs5 qs8 qs9 qs10 qs11 qs12 qs13 qs14 qs15
      refine run_plain ?_
      refine op_move rfl sn39 ?_
      exact detK.mk
    -- 41: slot 101 := Op.move t13
    refine sure_det (js := [(40, 100)]) (ts := [13]) (gd := (some (100, true))) (place_at HVS.out (k := 41) rfl) (by rw [HCS.out]; kernel_rfl) ?_ ?_
    · intro wx hx ρ hρ hs hf
      have hρc := hρ.const
      have hρf := hρ.func
      obtain ⟨sn40, -⟩ := hs
      obtain ⟨fx13, -⟩ := hf
      rw [qs13] at fx13
      rw [place_at HVS.out (k := 40) rfl] at sn40
      replace sn40 : ρ (.tmp 100) = _ := sn40
      clear HCS HVS qs5 qs8 qs9 qs10 qs11 qs12 qs13 qs14 qs15
      first
        | (refine run_passed sn40 ?_
           exact detK.mk)
        | (refine run_guarded sn40 ?_
           refine op_move rfl fx13 ?_
           exact detK.mk)
    -- 42: slot 102 := Op.move t14
    refine sure_det (js := [(40, 100)]) (ts := [14]) (gd := (some (100, true))) (place_at HVS.out (k := 42) rfl) (by rw [HCS.out]; kernel_rfl) ?_ ?_
    · intro wx hx ρ hρ hs hf
      have hρc := hρ.const
      have hρf := hρ.func
      obtain ⟨sn40, -⟩ := hs
      obtain ⟨fx14, -⟩ := hf
      rw [qs14] at fx14
      rw [place_at HVS.out (k := 40) rfl] at sn40
      replace sn40 : ρ (.tmp 100) = _ := sn40
      clear HCS HVS qs5 qs8 qs9 qs10 qs11 qs12 qs13 qs14 qs15
      first
        | (refine run_passed sn40 ?_
           exact detK.mk)
        | (refine run_guarded sn40 ?_
           refine op_move rfl fx14 ?_
           exact detK.mk)
    -- 43: slot 103 := Op.call { call ( 31), args := #[t101, t102], argTypes := #[3, 3] }
    refine sure_det (js := [(41, 101), (42, 102), (40, 100)]) (ts := []) (gd := (some (100, true))) (place_at HVS.out (k := 43) rfl) (by rw [HCS.out]; kernel_rfl) ?_ ?_
    · intro wx hx ρ hρ hs hf
      have hρc := hρ.const
      have hρf := hρ.func
      obtain ⟨sn41, sn42, sn40, -⟩ := hs
      rw [place_at HVS.out (k := 41) rfl] at sn41
      replace sn41 : ρ (.tmp 101) = _ := sn41
      rw [place_at HVS.out (k := 42) rfl] at sn42
      replace sn42 : ρ (.tmp 102) = _ := sn42
      rw [place_at HVS.out (k := 40) rfl] at sn40
      replace sn40 : ρ (.tmp 100) = _ := sn40
      clear hf
      clear HCS HVS qs5 qs8 qs9 qs10 qs11 qs12 qs13 qs14 qs15
      first
        | (refine run_passed sn40 ?_
           exact detK.mk)
        | (refine run_guarded sn40 ?_
           refine op_call rfl hρ Try.call31 (map_two sn41 sn42) ?_
           first | ((with_reducible refine Calls.mono (cright_any _ _ _ _ _ _) ?_); rintro e w' ⟨rfl, hx5⟩; refine ⟨_, rfl, ?_⟩; exact detK.ext hx5) | ((with_reducible refine Calls.mono (mright_any _ _ _ _ _ _) ?_); rintro e w' ⟨rfl, hx5⟩; refine ⟨_, rfl, ?_⟩; exact detK.ext hx5) | ((with_reducible refine Calls.mono (pin_any _ (by omega) (by omega) _) ?_); rintro e w' ⟨rfl, rfl⟩; refine ⟨_, rfl, ?_⟩; exact detK.mk) | ((with_reducible refine Calls.mono (rpin_any _ (by omega) (by omega) _) ?_); rintro e w' ⟨rfl, rfl⟩; refine ⟨_, rfl, ?_⟩; exact detK.mk) | ((with_reducible refine Calls.mono (field_any _ _ _ (by omega) (by omega) (by omega) (by omega) (by omega) (by omega) _) ?_); rintro e w' ⟨rfl, rfl⟩; refine ⟨_, rfl, ?_⟩; exact detK.mk) | ((with_reducible refine Calls.mono (rfield_any _ _ _ (by omega) (by omega) (by omega) (by omega) (by omega) (by omega) _) ?_); rintro e w' ⟨rfl, rfl⟩; refine ⟨_, rfl, ?_⟩; exact detK.mk) | ((with_reducible refine Calls.mono (next_any _ _ (by omega) (by omega) (by omega) (by omega) _) ?_); rintro e w' ⟨rfl, rfl⟩; refine ⟨_, rfl, ?_⟩; exact detK.mk) | ((with_reducible refine Calls.mono (rnext_any _ _ (by omega) (by omega) (by omega) (by omega) _) ?_); rintro e w' ⟨rfl, rfl⟩; refine ⟨_, rfl, ?_⟩; exact detK.mk))
    -- 44: slot 104 := Op.move t13
    refine sure_det (js := [(40, 100)]) (ts := [13]) (gd := (some (100, true))) (place_at HVS.out (k := 44) rfl) (by rw [HCS.out]; kernel_rfl) ?_ ?_
    · intro wx hx ρ hρ hs hf
      have hρc := hρ.const
      have hρf := hρ.func
      obtain ⟨sn40, -⟩ := hs
      obtain ⟨fx13, -⟩ := hf
      rw [qs13] at fx13
      rw [place_at HVS.out (k := 40) rfl] at sn40
      replace sn40 : ρ (.tmp 100) = _ := sn40
      clear HCS HVS qs5 qs8 qs9 qs10 qs11 qs12 qs13 qs14 qs15
      first
        | (refine run_passed sn40 ?_
           exact detK.mk)
        | (refine run_guarded sn40 ?_
           refine op_move rfl fx13 ?_
           exact detK.mk)
    -- 45: slot 105 := Op.move t14
    refine sure_det (js := [(40, 100)]) (ts := [14]) (gd := (some (100, true))) (place_at HVS.out (k := 45) rfl) (by rw [HCS.out]; kernel_rfl) ?_ ?_
    · intro wx hx ρ hρ hs hf
      have hρc := hρ.const
      have hρf := hρ.func
      obtain ⟨sn40, -⟩ := hs
      obtain ⟨fx14, -⟩ := hf
      rw [qs14] at fx14
      rw [place_at HVS.out (k := 40) rfl] at sn40
      replace sn40 : ρ (.tmp 100) = _ := sn40
      clear HCS HVS qs5 qs8 qs9 qs10 qs11 qs12 qs13 qs14 qs15
      first
        | (refine run_passed sn40 ?_
           exact detK.mk)
        | (refine run_guarded sn40 ?_
           refine op_move rfl fx14 ?_
           exact detK.mk)
    -- 46: slot 106 := Op.call { call ( 32), args := #[t104, t105], argTypes := #[3, 3] }
    refine sure_det (js := [(44, 104), (45, 105), (40, 100)]) (ts := []) (gd := (some (100, true))) (place_at HVS.out (k := 46) rfl) (by rw [HCS.out]; kernel_rfl) ?_ ?_
    · intro wx hx ρ hρ hs hf
      have hρc := hρ.const
      have hρf := hρ.func
      obtain ⟨sn44, sn45, sn40, -⟩ := hs
      rw [place_at HVS.out (k := 44) rfl] at sn44
      replace sn44 : ρ (.tmp 104) = _ := sn44
      rw [place_at HVS.out (k := 45) rfl] at sn45
      replace sn45 : ρ (.tmp 105) = _ := sn45
      rw [place_at HVS.out (k := 40) rfl] at sn40
      replace sn40 : ρ (.tmp 100) = _ := sn40
      clear hf
      clear HCS HVS qs5 qs8 qs9 qs10 qs11 qs12 qs13 qs14 qs15
      first
        | (refine run_passed sn40 ?_
           exact detK.mk)
        | (refine run_guarded sn40 ?_
           refine op_call rfl hρ Try.call32 (map_two sn44 sn45) ?_
           first | ((with_reducible refine Calls.mono (cright_any _ _ _ _ _ _) ?_); rintro e w' ⟨rfl, hx5⟩; refine ⟨_, rfl, ?_⟩; exact detK.ext hx5) | ((with_reducible refine Calls.mono (mright_any _ _ _ _ _ _) ?_); rintro e w' ⟨rfl, hx5⟩; refine ⟨_, rfl, ?_⟩; exact detK.ext hx5) | ((with_reducible refine Calls.mono (pin_any _ (by omega) (by omega) _) ?_); rintro e w' ⟨rfl, rfl⟩; refine ⟨_, rfl, ?_⟩; exact detK.mk) | ((with_reducible refine Calls.mono (rpin_any _ (by omega) (by omega) _) ?_); rintro e w' ⟨rfl, rfl⟩; refine ⟨_, rfl, ?_⟩; exact detK.mk) | ((with_reducible refine Calls.mono (field_any _ _ _ (by omega) (by omega) (by omega) (by omega) (by omega) (by omega) _) ?_); rintro e w' ⟨rfl, rfl⟩; refine ⟨_, rfl, ?_⟩; exact detK.mk) | ((with_reducible refine Calls.mono (rfield_any _ _ _ (by omega) (by omega) (by omega) (by omega) (by omega) (by omega) _) ?_); rintro e w' ⟨rfl, rfl⟩; refine ⟨_, rfl, ?_⟩; exact detK.mk) | ((with_reducible refine Calls.mono (next_any _ _ (by omega) (by omega) (by omega) (by omega) _) ?_); rintro e w' ⟨rfl, rfl⟩; refine ⟨_, rfl, ?_⟩; exact detK.mk) | ((with_reducible refine Calls.mono (rnext_any _ _ (by omega) (by omega) (by omega) (by omega) _) ?_); rintro e w' ⟨rfl, rfl⟩; refine ⟨_, rfl, ?_⟩; exact detK.mk))
    -- 47: slot 107 := Op.binOp BinOp.eql 3 t103 t106 3
    refine sure_det (js := [(43, 103), (46, 106), (40, 100)]) (ts := []) (gd := (some (100, true))) (place_at HVS.out (k := 47) rfl) (by rw [HCS.out]; kernel_rfl) ?_ ?_
    · intro wx hx ρ hρ hs hf
      have hρc := hρ.const
      have hρf := hρ.func
      obtain ⟨sn43, sn46, sn40, -⟩ := hs
      rw [place_at HVS.out (k := 43) rfl] at sn43
      replace sn43 : ρ (.tmp 103) = _ := sn43
      rw [place_at HVS.out (k := 46) rfl] at sn46
      replace sn46 : ρ (.tmp 106) = _ := sn46
      rw [place_at HVS.out (k := 40) rfl] at sn40
      replace sn40 : ρ (.tmp 100) = _ := sn40
      clear hf
      clear HCS HVS qs5 qs8 qs9 qs10 qs11 qs12 qs13 qs14 qs15
      first
        | (refine run_passed sn40 ?_
           exact detK.mk)
        | (refine run_guarded sn40 ?_
           unfold runs
           go_simp
           exact detK.mk)
    -- 48: slot 108 := Op.pick t100 t107 ((Value.bool false))
    refine sure_det (js := [(40, 100), (47, 107)]) (ts := []) (gd := none) (place_at HVS.out (k := 48) rfl) (by rw [HCS.out]; kernel_rfl) ?_ ?_
    · intro wx hx ρ hρ hs hf
      have hρc := hρ.const
      have hρf := hρ.func
      obtain ⟨sn40, sn47, -⟩ := hs
      rw [place_at HVS.out (k := 40) rfl] at sn40
      replace sn40 : ρ (.tmp 100) = _ := sn40
      rw [place_at HVS.out (k := 47) rfl] at sn47
      replace sn47 : ρ (.tmp 107) = _ := sn47
      clear hf
      clear HCS HVS qs5 qs8 qs9 qs10 qs11 qs12 qs13 qs14 qs15
      refine run_plain ?_
      first | refine op_pick_t rfl sn40 sn47 ?_ | refine op_pick_f rfl sn40 (hρ.const _) ?_
      exact detK.mk
    -- 49: slot 2 := Op.assign t108
    refine sure_det (js := [(48, 108)]) (ts := []) (gd := none) (place_at HVS.out (k := 49) rfl) (by rw [HCS.out]; kernel_rfl) ?_ ?_
    · intro wx hx ρ hρ hs hf
      have hρc := hρ.const
      have hρf := hρ.func
      obtain ⟨sn48, -⟩ := hs
      rw [place_at HVS.out (k := 48) rfl] at sn48
      replace sn48 : ρ (.tmp 108) = _ := sn48
      clear hf
      clear HCS HVS qs5 qs8 qs9 qs10 qs11 qs12 qs13 qs14 qs15
      refine run_plain ?_
      refine op_assign rfl sn48 ?_
      exact detK.mk
    exact trivial
  case hend =>
    intro xs wx hx hg
    have gk0 : xs 0 = _ := goods_get hg (i := 0) (j := 0) (d := 60) rfl
    have gk1 : xs 1 = _ := goods_get hg (i := 1) (j := 1) (d := 61) rfl
    have gk2 : xs 2 = _ := goods_get hg (i := 2) (j := 2) (d := 62) rfl
    have gk3 : xs 3 = _ := goods_get hg (i := 3) (j := 3) (d := 63) rfl
    have gk4 : xs 4 = _ := goods_get hg (i := 4) (j := 4) (d := 64) rfl
    have gk5 : xs 5 = _ := goods_get hg (i := 5) (j := 5) (d := 65) rfl
    have gk6 : xs 6 = _ := goods_get hg (i := 6) (j := 6) (d := 66) rfl
    have gk7 : xs 7 = _ := goods_get hg (i := 7) (j := 7) (d := 67) rfl
    have gk8 : xs 8 = _ := goods_get hg (i := 8) (j := 8) (d := 68) rfl
    have gk9 : xs 9 = _ := goods_get hg (i := 9) (j := 9) (d := 69) rfl
    have gk10 : xs 10 = _ := goods_get hg (i := 10) (j := 10) (d := 70) rfl
    have gk11 : xs 11 = _ := goods_get hg (i := 11) (j := 11) (d := 71) rfl
    have gk12 : xs 12 = _ := goods_get hg (i := 12) (j := 12) (d := 72) rfl
    have gk13 : xs 13 = _ := goods_get hg (i := 13) (j := 13) (d := 73) rfl
    have gk14 : xs 14 = _ := goods_get hg (i := 14) (j := 14) (d := 74) rfl
    have gk15 : xs 15 = _ := goods_get hg (i := 15) (j := 15) (d := 75) rfl
    have gk16 : xs 16 = _ := goods_get hg (i := 16) (j := 16) (d := 76) rfl
    have gk17 : xs 17 = _ := goods_get hg (i := 17) (j := 17) (d := 77) rfl
    have gk18 : xs 18 = _ := goods_get hg (i := 18) (j := 18) (d := 78) rfl
    have gk19 : xs 19 = _ := goods_get hg (i := 19) (j := 19) (d := 79) rfl
    have gk20 : xs 20 = _ := goods_get hg (i := 20) (j := 20) (d := 80) rfl
    have gk21 : xs 21 = _ := goods_get hg (i := 21) (j := 21) (d := 81) rfl
    have gk22 : xs 22 = _ := goods_get hg (i := 22) (j := 22) (d := 82) rfl
    have gk23 : xs 23 = _ := goods_get hg (i := 23) (j := 23) (d := 83) rfl
    have gk24 : xs 24 = _ := goods_get hg (i := 24) (j := 24) (d := 84) rfl
    have gk25 : xs 25 = _ := goods_get hg (i := 25) (j := 25) (d := 85) rfl
    have gk26 : xs 26 = _ := goods_get hg (i := 26) (j := 26) (d := 86) rfl
    have gk27 : xs 27 = _ := goods_get hg (i := 27) (j := 27) (d := 87) rfl
    have gk28 : xs 28 = _ := goods_get hg (i := 28) (j := 28) (d := 88) rfl
    have gk29 : xs 29 = _ := goods_get hg (i := 29) (j := 29) (d := 89) rfl
    have gk30 : xs 30 = _ := goods_get hg (i := 30) (j := 30) (d := 90) rfl
    have gk31 : xs 31 = _ := goods_get hg (i := 31) (j := 31) (d := 91) rfl
    have gk32 : xs 32 = _ := goods_get hg (i := 32) (j := 32) (d := 92) rfl
    have gk33 : xs 33 = _ := goods_get hg (i := 33) (j := 33) (d := 93) rfl
    have gk34 : xs 34 = _ := goods_get hg (i := 34) (j := 34) (d := 94) rfl
    have gk35 : xs 35 = _ := goods_get hg (i := 35) (j := 35) (d := 95) rfl
    have gk36 : xs 36 = _ := goods_get hg (i := 36) (j := 36) (d := 96) rfl
    have gk37 : xs 37 = _ := goods_get hg (i := 37) (j := 37) (d := 97) rfl
    have gk38 : xs 38 = _ := goods_get hg (i := 38) (j := 38) (d := 98) rfl
    have gk39 : xs 39 = _ := goods_get hg (i := 39) (j := 39) (d := 99) rfl
    have gk40 : xs 40 = _ := goods_get hg (i := 40) (j := 40) (d := 100) rfl
    have gk41 : xs 41 = _ := goods_get hg (i := 41) (j := 41) (d := 101) rfl
    have gk42 : xs 42 = _ := goods_get hg (i := 42) (j := 42) (d := 102) rfl
    have gk43 : xs 43 = _ := goods_get hg (i := 43) (j := 43) (d := 103) rfl
    have gk44 : xs 44 = _ := goods_get hg (i := 44) (j := 44) (d := 104) rfl
    have gk45 : xs 45 = _ := goods_get hg (i := 45) (j := 45) (d := 105) rfl
    have gk46 : xs 46 = _ := goods_get hg (i := 46) (j := 46) (d := 106) rfl
    have gk47 : xs 47 = _ := goods_get hg (i := 47) (j := 47) (d := 107) rfl
    have gk48 : xs 48 = _ := goods_get hg (i := 48) (j := 48) (d := 108) rfl
    have gk49 : xs 49 = _ := goods_get hg (i := 49) (j := 49) (d := 2) rfl
    clear hg
    simp only [putAll, gk0, gk1, gk2, gk3, gk4, gk5, gk6, gk7, gk8, gk9, gk10, gk11, gk12, gk13, gk14, gk15, gk16, gk17, gk18, gk19, gk20, gk21, gk22, gk23, gk24, gk25, gk26, gk27, gk28, gk29, gk30, gk31, gk32, gk33, gk34, gk35, gk36, gk37, gk38, gk39, gk40, gk41, gk42, gk43, gk44, gk45, gk46, gk47, gk48, gk49]
    clear gk0 gk1 gk2 gk3 gk4 gk5 gk6 gk7 gk8 gk9 gk10 gk11 gk12 gk13 gk14 gk15 gk16 gk17 gk18 gk19 gk20 gk21 gk22 gk23 gk24 gk25 gk26 gk27 gk28 gk29 gk30 gk31 gk32 gk33 gk34 gk35 gk36 gk37 gk38 gk39 gk40 gk41 gk42 gk43 gk44 gk45 gk46 gk47 gk48 gk49
    clear xs
    simp only [Act.put, List.setIfInBounds_toArray, List.set_cons_zero, List.set_cons_succ]
    go_wp2
    go_ret
    exact ⟨rfl, hE.trans hx.drawn⟩
set_option maxRecDepth 100000 in
set_option maxHeartbeats 4000000 in
theorem ctells_no (t c : Int) (hm : mayB t c = false) (hc : ¬ (400 < c ∧ c ≤ 65536)) (mt mc : Int) (A : Option Addr) (n cp : Nat) (rn fn : Nat) (w : World) (hn : n ≤ 4000) (hr : rn < 65536) (hf : fn < 256) :
    Calls Try.prog 5 #[.agg #[.int .i64 t, .int .i64 c, .int .i64 mt, .int .i64 mc, .slice A n cp, .int .u16 rn, .int .u8 fn]] w fun e w' => e = .returned (.bool true) ∧ Ext w w' := by
  have hE : Ext w (w.alloc (.cells #[.int .i64 t, .int .i64 c, .int .i64 mt, .int .i64 mc, .slice A n cp, .int .u16 rn, .int .u8 fn] 45)) := (Below.refl _ w).alloc (Nat.le_refl _) _
  obtain ⟨B, hB, hB1⟩ := and63 t
  have hF : (fn : Int) % 8 = ((fn % 8 : Nat) : Int) := by omega
  have hF1 : fn % 8 < 8 := by omega
  generalize fn % 8 = F at *
  have hc' : ¬ (400 : Int) < c ∨ ((400 : Int) < c ∧ ¬ c ≤ 65536) := by omega
  clear hc
  rcases hc' with hc1 | ⟨hc1, hc2⟩
  all_goals
    go_enter Try.func5, Try.ntmps5
    go_upto_region 6 with (fail)
    have hM : Ext (w.alloc (.cells #[.int .i64 t, .int .i64 c, .int .i64 mt, .int .i64 mc, .slice A n cp, .int .u16 rn, .int .u8 fn] 45)) ((w.alloc (.cells #[.int .i64 t, .int .i64 c, .int .i64 mt, .int .i64 mc, .slice A n cp, .int .u16 rn, .int .u8 fn] 45)).alloc (.cells #[.int .i64 mt, .int .i64 mc, .slice A n cp] 42)) := (Below.refl _ _).alloc (Nat.le_refl _) _
    replace hE := hE.trans hM
    go_wp2_with fail
    refine (shown9_any _).mono ?_
    rintro e w1 ⟨rfl, hx1⟩
    have m0 := hx1.cell (p := ⟨w.heap.size + 1, 0, none⟩) (v := .int .i64 mt) (by simp [go_sem])
    have m1 := hx1.cell (p := ⟨w.heap.size + 1, 1, none⟩) (v := .int .i64 mc) (by simp [go_sem])
    have m2 := hx1.cell (p := ⟨w.heap.size + 1, 2, none⟩) (v := .slice A n cp) (by simp [go_sem])
    replace hE := hE.trans hx1
    clear hx1 hM
    go_wp2_with fail
    refine (new_no t c hm _).mono ?_
    rintro e w2 ⟨rfl, hx2⟩
    have hV1 := words_nil w2
    have hw2 : Ext w2 (w2.alloc (.cells #[.int .i64 0, .int .i64 0, .slice none 0 0] 42)) := (Below.refl _ w2).alloc (Nat.le_refl _) _
    have a0 : (w2.alloc (.cells #[.int .i64 0, .int .i64 0, .slice none 0 0] 42)).cell? ⟨w2.heap.size, 0, none⟩ = some (.int .i64 0) := by simp [go_sem]
    have a1 : (w2.alloc (.cells #[.int .i64 0, .int .i64 0, .slice none 0 0] 42)).cell? ⟨w2.heap.size, 1, none⟩ = some (.int .i64 0) := by simp [go_sem]
    have a2 : (w2.alloc (.cells #[.int .i64 0, .int .i64 0, .slice none 0 0] 42)).cell? ⟨w2.heap.size, 2, none⟩ = some (.slice none 0 0) := by simp [go_sem]
    replace hx2 := hx2.trans hw2
    replace hE := hE.trans hx2
    replace m0 := hx2.cell m0
    replace m1 := hx2.cell m1
    replace m2 := hx2.cell m2
    replace hV1 := hV1.ext hw2
    have hs2 : w2.heap.size < (w2.alloc (.cells #[.int .i64 0, .int .i64 0, .slice none 0 0] 42)).heap.size := by simp
    clear hx2 hw2
    go_upto_region 10 with (fail)
    generalize w2.alloc (.cells #[.int .i64 0, .int .i64 0, .slice none 0 0] 42) = W2 at *
    generalize w2.heap.size = ba at *
    go_wp2_with fail
    refine (rnew_no t c hm _).mono ?_
    rintro e w3 ⟨rfl, hx3⟩
    have hV2 := words_nil w3
    have hw3 : Ext w3 (w3.alloc (.cells #[.int .i64 0, .int .i64 0, .slice none 0 0] 42)) := (Below.refl _ w3).alloc (Nat.le_refl _) _
    have b0 : (w3.alloc (.cells #[.int .i64 0, .int .i64 0, .slice none 0 0] 42)).cell? ⟨w3.heap.size, 0, none⟩ = some (.int .i64 0) := by simp [go_sem]
    have b1 : (w3.alloc (.cells #[.int .i64 0, .int .i64 0, .slice none 0 0] 42)).cell? ⟨w3.heap.size, 1, none⟩ = some (.int .i64 0) := by simp [go_sem]
    have b2 : (w3.alloc (.cells #[.int .i64 0, .int .i64 0, .slice none 0 0] 42)).cell? ⟨w3.heap.size, 2, none⟩ = some (.slice none 0 0) := by simp [go_sem]
    replace hx3 := hx3.trans hw3
    replace hE := hE.trans hx3
    replace m0 := hx3.cell m0
    replace m1 := hx3.cell m1
    replace m2 := hx3.cell m2
    replace a0 := hx3.cell a0
    replace a1 := hx3.cell a1
    replace a2 := hx3.cell a2
    replace hV1 := hV1.ext hx3
    replace hV2 := hV2.ext hw3
    clear hx3 hw3 hs2
    go_upto_region 11 with (fail)
    generalize w3.alloc (.cells #[.int .i64 0, .int .i64 0, .slice none 0 0] 42) = W3 at *
    generalize w3.heap.size = bb at *
    have hall : ∀ wx, Ext W3.drew wx → wx.cell? ⟨w.heap.size + 1, 0, none⟩ = some (.int .i64 mt) ∧ wx.cell? ⟨w.heap.size + 1, 1, none⟩ = some (.int .i64 mc) ∧ wx.cell? ⟨w.heap.size + 1, 2, none⟩ = some (.slice A n cp) ∧
        wx.cell? ⟨ba, 0, none⟩ = some (.int .i64 0) ∧ wx.cell? ⟨ba, 1, none⟩ = some (.int .i64 0) ∧ wx.cell? ⟨ba, 2, none⟩ = some (.slice none 0 0) ∧
        wx.cell? ⟨bb, 0, none⟩ = some (.int .i64 0) ∧ wx.cell? ⟨bb, 1, none⟩ = some (.int .i64 0) ∧ wx.cell? ⟨bb, 2, none⟩ = some (.slice none 0 0) := fun wx hx =>
      ⟨hx.drawn.cell m0, hx.drawn.cell m1, hx.drawn.cell m2, hx.drawn.cell a0, hx.drawn.cell a1, hx.drawn.cell a2, hx.drawn.cell b0, hx.drawn.cell b1, hx.drawn.cell b2⟩
    clear m0 m1 m2 a0 a1 a2 b0 b1 b2
    go_wp2_with fail
    try rw [hB]
    try rw [hF]
    have HB := Lib.hid hB
    have HF := Lib.hid hF
    clear hB hF
    have hw1 : IntKind.i64.wrap (1 + (B : Int) - 1) = (B : Int) := by rw [IntKind.wrap_i64]; omega
    have hw2 : IntKind.i64.wrap (1 + (rn : Int)) = 1 + (rn : Int) := by rw [IntKind.wrap_i64]; omega
    refine' wp_region_sure_all ⟨((some 60, [], none) :: (some 61, [0], none) :: (some 62, [1], some (1, true)) :: (some 63, [1], some (1, true)) :: (some 64, [2, 3, 1, 1], some (1, true)) :: (some 65, [1, 4], none) :: (some 66, [5, 4], none) :: (some 67, [6], some (6, true)) :: (some 68, [6], some (6, true)) :: (some 69, [7, 8, 6], some (6, true)) :: (some 70, [6, 9], none) :: (some 71, [10, 6], none) :: (some 72, [11], some (11, true)) :: (some 73, [12, 11, 11], some (11, true)) :: (some 74, [11], some (11, true)) :: (some 75, [14, 13, 11], some (11, true)) :: (some 76, [13, 15, 11], some (11, true)) :: (some 77, [11, 16], none) :: (some 78, [17, 15], none) :: (some 79, [18], some (18, true)) :: (some 80, [19, 18], some (18, true)) :: (some 81, [20, 18, 18], some (18, true)) :: (some 82, [18], some (18, true)) :: (some 83, [22, 18], some (18, true)) :: (some 84, [23, 21, 18], some (18, true)) :: (some 85, [21, 24, 18], some (18, true)) :: (some 86, [18, 25], none) :: (some 87, [26, 24], none) :: (some 88, [27], some (27, true)) :: (some 89, [27], some (27, true)) :: (some 90, [29, 27], some (27, true)) :: (some 91, [27], some (27, true)) :: (some 92, [28, 30, 31, 27, 27], some (27, true)) :: (some 93, [27], some (27, true)) :: (some 94, [27], some (27, true)) :: (some 95, [34, 27], some (27, true)) :: (some 96, [27], some (27, true)) :: (some 97, [33, 35, 36, 32, 27], some (27, true)) :: (some 98, [32, 37, 27], some (27, true)) :: (some 99, [27, 38], none) :: (some 100, [39, 37], none) :: (some 101, [40], some (40, true)) :: (some 102, [40], some (40, true)) :: (some 103, [41, 42, 40, 40], some (40, true)) :: (some 104, [40], some (40, true)) :: (some 105, [40], some (40, true)) :: (some 106, [44, 45, 43, 40], some (40, true)) :: (some 107, [43, 46, 40], some (40, true)) :: (some 108, [40, 47], none) :: (some 2, [48, 46, 0, 1, 2, 3, 4, 5, 6, 7, 8, 9, 10, 11, 12, 13, 14, 15, 16, 17, 18, 19, 20, 21, 22, 23, 24, 25, 26, 27, 28, 29, 30, 31, 32, 33, 34, 35, 36, 37, 38, 39, 40, 41, 42, 43, 44, 45, 46, 47, 48], none) :: []), (0 :: 1 :: 3 :: 3 :: 15 :: 31 :: 63 :: 127 :: 127 :: 511 :: 1023 :: 2047 :: 4095 :: 8191 :: 4095 :: 32767 :: 65535 :: 131071 :: 262143 :: 524287 :: 1048575 :: 2097151 :: 524287 :: 4718591 :: 16777215 :: 33554431 :: 67108863 :: 134217727 :: 268435455 :: 268435455 :: 805306367 :: 268435455 :: 4294967295 :: 268435455 :: 268435455 :: 17448304639 :: 268435455 :: 137438953471 :: 274877906943 :: 549755813887 :: 1099511627775 :: 2199023255551 :: 2199023255551 :: 8796093022207 :: 2199023255551 :: 2199023255551 :: 70368744177663 :: 140737488355327 :: 281474976710655 :: 562949953421311 :: []), (true :: true :: true :: true :: true :: true :: true :: true :: true :: true :: true :: true :: true :: true :: true :: true :: true :: true :: true :: true :: true :: true :: true :: true :: true :: true :: true :: true :: true :: true :: true :: true :: true :: true :: true :: true :: true :: true :: true :: true :: true :: true :: true :: true :: true :: true :: true :: true :: true :: true :: []), [], 0⟩ 50 109 ((0, 60) :: (1, 61) :: (2, 62) :: (3, 63) :: (4, 64) :: (5, 65) :: (6, 66) :: (7, 67) :: (8, 68) :: (9, 69) :: (10, 70) :: (11, 71) :: (12, 72) :: (13, 73) :: (14, 74) :: (15, 75) :: (16, 76) :: (17, 77) :: (18, 78) :: (19, 79) :: (20, 80) :: (21, 81) :: (22, 82) :: (23, 83) :: (24, 84) :: (25, 85) :: (26, 86) :: (27, 87) :: (28, 88) :: (29, 89) :: (30, 90) :: (31, 91) :: (32, 92) :: (33, 93) :: (34, 94) :: (35, 95) :: (36, 96) :: (37, 97) :: (38, 98) :: (39, 99) :: (40, 100) :: (41, 101) :: (42, 102) :: (43, 103) :: (44, 104) :: (45, 105) :: (46, 106) :: (47, 107) :: (48, 108) :: (49, 2) :: []) ((0, 60) :: (1, 61) :: (2, 62) :: (3, 63) :: (4, 64) :: (5, 65) :: (6, 66) :: (7, 67) :: (8, 68) :: (9, 69) :: (10, 70) :: (11, 71) :: (12, 72) :: (13, 73) :: (14, 74) :: (15, 75) :: (16, 76) :: (17, 77) :: (18, 78) :: (19, 79) :: (20, 80) :: (21, 81) :: (22, 82) :: (23, 83) :: (24, 84) :: (25, 85) :: (26, 86) :: (27, 87) :: (28, 88) :: (29, 89) :: (30, 90) :: (31, 91) :: (32, 92) :: (33, 93) :: (34, 94) :: (35, 95) :: (36, 96) :: (37, 97) :: (38, 98) :: (39, 99) :: (40, 100) :: (41, 101) :: (42, 102) :: (43, 103) :: (44, 104) :: (45, 105) :: (46, 106) :: (47, 107) :: (48, 108) :: (49, 2) :: []) (.det _ :: .det _ :: .det _ :: .det _ :: .det _ :: .det _ :: .det _ :: .det _ :: .det _ :: .det _ :: .det _ :: .det _ :: .det _ :: .det _ :: .det _ :: .det _ :: .det _ :: .det _ :: .det _ :: .det _ :: .det _ :: .det _ :: .det _ :: .det _ :: .det _ :: .det _ :: .det _ :: .det _ :: .det _ :: .det _ :: .det _ :: .det _ :: .det _ :: .det _ :: .det _ :: .det _ :: .det _ :: .det _ :: .det _ :: .det _ :: .det _ :: .det _ :: .det _ :: .det _ :: .det _ :: .det _ :: .det _ :: .det _ :: .det _ :: .det _ :: []) (by kernel_rfl) (by kernel_rfl) (by kernel_rfl) rfl (by kernel_rfl) (by kernel_rfl) rfl (by kernel_rfl) ?hone ?hend
    case hone =>
      intro CS frS VS hCS ha hV
      have qs5 := slot_val (t := 5) ha rfl
      simp only [List.getElem_toArray, List.getElem_cons_succ, List.getElem_cons_zero] at qs5
      have qs8 := slot_val (t := 8) ha rfl
      simp only [List.getElem_toArray, List.getElem_cons_succ, List.getElem_cons_zero] at qs8
      have qs9 := slot_val (t := 9) ha rfl
      simp only [List.getElem_toArray, List.getElem_cons_succ, List.getElem_cons_zero] at qs9
      have qs10 := slot_val (t := 10) ha rfl
      simp only [List.getElem_toArray, List.getElem_cons_succ, List.getElem_cons_zero] at qs10
      have qs11 := slot_val (t := 11) ha rfl
      simp only [List.getElem_toArray, List.getElem_cons_succ, List.getElem_cons_zero] at qs11
      have qs12 := slot_val (t := 12) ha rfl
      simp only [List.getElem_toArray, List.getElem_cons_succ, List.getElem_cons_zero] at qs12
      have qs13 := slot_val (t := 13) ha rfl
      simp only [List.getElem_toArray, List.getElem_cons_succ, List.getElem_cons_zero] at qs13
      have qs14 := slot_val (t := 14) ha rfl
      simp only [List.getElem_toArray, List.getElem_cons_succ, List.getElem_cons_zero] at qs14
      have qs15 := slot_val (t := 15) ha rfl
      simp only [List.getElem_toArray, List.getElem_cons_succ, List.getElem_cons_zero] at qs15
      have HCS := Lib.hid hCS
      have HVS := Lib.hid hV
      clear ha hCS hV
      -- 0: slot 60 := Op.move t8
      refine sure_det (js := []) (ts := [8]) (gd := none) (place_at HVS.out (k := 0) rfl) (by rw [HCS.out]; kernel_rfl) ?_ ?_
      · intro wx hx ρ hρ hs hf
        have hρc := hρ.const
        have hρf := hρ.func
        obtain ⟨fx8, -⟩ := hf
        rw [qs8] at fx8
        clear hs
        clear HCS HVS qs5 qs8 qs9 qs10 qs11 qs12 qs13 qs14 qs15
        refine run_plain ?_
        refine op_move rfl fx8 ?_
        exact detK.mk
      -- 1: slot 61 := Op.move t60
      refine sure_det (js := [(0, 60)]) (ts := []) (gd := none) (place_at HVS.out (k := 1) rfl) (by rw [HCS.out]; kernel_rfl) ?_ ?_
      · intro wx hx ρ hρ hs hf
        have hρc := hρ.const
        have hρf := hρ.func
        obtain ⟨sn0, -⟩ := hs
        rw [place_at HVS.out (k := 0) rfl] at sn0
        replace sn0 : ρ (.tmp 60) = _ := sn0
        clear hf
        clear HCS HVS qs5 qs8 qs9 qs10 qs11 qs12 qs13 qs14 qs15
        refine run_plain ?_
        refine op_move rfl sn0 ?_
        exact detK.mk
      -- 2: slot 62 := Op.load 42 t9
      refine sure_det (js := [(1, 61)]) (ts := [9]) (gd := (some (61, true))) (place_at HVS.out (k := 2) rfl) (by rw [HCS.out]; kernel_rfl) ?_ ?_
      · intro wx hx ρ hρ hs hf
        have hρc := hρ.const
        have hρf := hρ.func
        obtain ⟨sn1, -⟩ := hs
        obtain ⟨fx9, -⟩ := hf
        rw [qs9] at fx9
        rw [place_at HVS.out (k := 1) rfl] at sn1
        replace sn1 : ρ (.tmp 61) = _ := sn1
        clear HCS HVS qs5 qs8 qs9 qs10 qs11 qs12 qs13 qs14 qs15
        first
          | (refine run_passed sn1 ?_
             exact detK.mk)
          | (refine run_guarded sn1 ?_
             obtain ⟨m0, m1, m2, a0, a1, a2, b0, b1, b2⟩ := hall wx hx
             unfold runs
             go_simp
             exact detK.mk)
      -- 3: slot 63 := Op.load 42 t11
      refine sure_det (js := [(1, 61)]) (ts := [11]) (gd := (some (61, true))) (place_at HVS.out (k := 3) rfl) (by rw [HCS.out]; kernel_rfl) ?_ ?_
      · intro wx hx ρ hρ hs hf
        have hρc := hρ.const
        have hρf := hρ.func
        obtain ⟨sn1, -⟩ := hs
        obtain ⟨fx11, -⟩ := hf
        rw [qs11] at fx11
        rw [place_at HVS.out (k := 1) rfl] at sn1
        replace sn1 : ρ (.tmp 61) = _ := sn1
        clear HCS HVS qs5 qs8 qs9 qs10 qs11 qs12 qs13 qs14 qs15
        first
          | (refine run_passed sn1 ?_
             exact detK.mk)
          | (refine run_guarded sn1 ?_
             obtain ⟨m0, m1, m2, a0, a1, a2, b0, b1, b2⟩ := hall wx hx
             unfold runs
             go_simp
             exact detK.mk)
      -- 4: slot 64 := Op.call { call ( 24), args := #[t62, t63], argTypes := #[42, 42] }
      refine sure_det (js := [(2, 62), (3, 63), (1, 61)]) (ts := []) (gd := (some (61, true))) (place_at HVS.out (k := 4) rfl) (by rw [HCS.out]; kernel_rfl) ?_ ?_
      · intro wx hx ρ hρ hs hf
        have hρc := hρ.const
        have hρf := hρ.func
        obtain ⟨sn2, sn3, sn1, -⟩ := hs
        rw [place_at HVS.out (k := 2) rfl] at sn2
        replace sn2 : ρ (.tmp 62) = _ := sn2
        rw [place_at HVS.out (k := 3) rfl] at sn3
        replace sn3 : ρ (.tmp 63) = _ := sn3
        rw [place_at HVS.out (k := 1) rfl] at sn1
        replace sn1 : ρ (.tmp 61) = _ := sn1
        clear hf
        clear HCS HVS qs5 qs8 qs9 qs10 qs11 qs12 qs13 qs14 qs15
        first
          | (refine run_passed sn1 ?_
             exact detK.mk)
          | (refine run_guarded sn1 ?_
             refine op_call rfl hρ Try.call24 (map_two sn2 sn3) ?_
             refine Calls.mono (msame_yes 0 0 _ _ _ _ _ _ _ (hV1.ext hx.drawn) (hV2.ext hx.drawn) (by omega)) ?_
             rintro e w' ⟨rfl, hx5⟩
             refine ⟨_, rfl, ?_⟩
             exact detK.ext hx5)
      -- 5: slot 65 := Op.pick t61 t64 ((Value.bool false))
      refine sure_det (js := [(1, 61), (4, 64)]) (ts := []) (gd := none) (place_at HVS.out (k := 5) rfl) (by rw [HCS.out]; kernel_rfl) ?_ ?_
      · intro wx hx ρ hρ hs hf
        have hρc := hρ.const
        have hρf := hρ.func
        obtain ⟨sn1, sn4, -⟩ := hs
        rw [place_at HVS.out (k := 1) rfl] at sn1
        replace sn1 : ρ (.tmp 61) = _ := sn1
        rw [place_at HVS.out (k := 4) rfl] at sn4
        replace sn4 : ρ (.tmp 64) = _ := sn4
        clear hf
        clear HCS HVS qs5 qs8 qs9 qs10 qs11 qs12 qs13 qs14 qs15
        refine run_plain ?_
        first | refine op_pick_t rfl sn1 sn4 ?_ | refine op_pick_f rfl sn1 (hρ.const _) ?_
        exact detK.mk
      -- 6: slot 66 := Op.move t65
      refine sure_det (js := [(5, 65)]) (ts := []) (gd := none) (place_at HVS.out (k := 6) rfl) (by rw [HCS.out]; kernel_rfl) ?_ ?_
      · intro wx hx ρ hρ hs hf
        have hρc := hρ.const
        have hρf := hρ.func
        obtain ⟨sn5, -⟩ := hs
        rw [place_at HVS.out (k := 5) rfl] at sn5
        replace sn5 : ρ (.tmp 65) = _ := sn5
        clear hf
        clear HCS HVS qs5 qs8 qs9 qs10 qs11 qs12 qs13 qs14 qs15
        refine run_plain ?_
        refine op_move rfl sn5 ?_
        exact detK.mk
      -- 7: slot 67 := Op.move t10
      refine sure_det (js := [(6, 66)]) (ts := [10]) (gd := (some (66, true))) (place_at HVS.out (k := 7) rfl) (by rw [HCS.out]; kernel_rfl) ?_ ?_
      · intro wx hx ρ hρ hs hf
        have hρc := hρ.const
        have hρf := hρ.func
        obtain ⟨sn6, -⟩ := hs
        obtain ⟨fx10, -⟩ := hf
        rw [qs10] at fx10
        rw [place_at HVS.out (k := 6) rfl] at sn6
        replace sn6 : ρ (.tmp 66) = _ := sn6
        clear HCS HVS qs5 qs8 qs9 qs10 qs11 qs12 qs13 qs14 qs15
        first
          | (refine run_passed sn6 ?_
             exact detK.mk)
          | (refine run_guarded sn6 ?_
             refine op_move rfl fx10 ?_
             exact detK.mk)
      -- 8: slot 68 := Op.move t12
      refine sure_det (js := [(6, 66)]) (ts := [12]) (gd := (some (66, true))) (place_at HVS.out (k := 8) rfl) (by rw [HCS.out]; kernel_rfl) ?_ ?_
      · intro wx hx ρ hρ hs hf
        have hρc := hρ.const
        have hρf := hρ.func
        obtain ⟨sn6, -⟩ := hs
        obtain ⟨fx12, -⟩ := hf
        rw [qs12] at fx12
        rw [place_at HVS.out (k := 6) rfl] at sn6
        replace sn6 : ρ (.tmp 66) = _ := sn6
        clear HCS HVS qs5 qs8 qs9 qs10 qs11 qs12 qs13 qs14 qs15
        first
          | (refine run_passed sn6 ?_
             exact detK.mk)
          | (refine run_guarded sn6 ?_
             refine op_move rfl fx12 ?_
             exact detK.mk)
      -- 9: slot 69 := Op.binOp BinOp.eql 3 t67 t68 3
      refine sure_det (js := [(7, 67), (8, 68), (6, 66)]) (ts := []) (gd := (some (66, true))) (place_at HVS.out (k := 9) rfl) (by rw [HCS.out]; kernel_rfl) ?_ ?_
      · intro wx hx ρ hρ hs hf
        have hρc := hρ.const
        have hρf := hρ.func
        obtain ⟨sn7, sn8, sn6, -⟩ := hs
        rw [place_at HVS.out (k := 7) rfl] at sn7
        replace sn7 : ρ (.tmp 67) = _ := sn7
        rw [place_at HVS.out (k := 8) rfl] at sn8
        replace sn8 : ρ (.tmp 68) = _ := sn8
        rw [place_at HVS.out (k := 6) rfl] at sn6
        replace sn6 : ρ (.tmp 66) = _ := sn6
        clear hf
        clear HCS HVS qs5 qs8 qs9 qs10 qs11 qs12 qs13 qs14 qs15
        first
          | (refine run_passed sn6 ?_
             exact detK.mk)
          | (refine run_guarded sn6 ?_
             unfold runs
             go_simp
             exact detK.mk)
      -- 10: slot 70 := Op.pick t66 t69 ((Value.bool false))
      refine sure_det (js := [(6, 66), (9, 69)]) (ts := []) (gd := none) (place_at HVS.out (k := 10) rfl) (by rw [HCS.out]; kernel_rfl) ?_ ?_
      · intro wx hx ρ hρ hs hf
        have hρc := hρ.const
        have hρf := hρ.func
        obtain ⟨sn6, sn9, -⟩ := hs
        rw [place_at HVS.out (k := 6) rfl] at sn6
        replace sn6 : ρ (.tmp 66) = _ := sn6
        rw [place_at HVS.out (k := 9) rfl] at sn9
        replace sn9 : ρ (.tmp 69) = _ := sn9
        clear hf
        clear HCS HVS qs5 qs8 qs9 qs10 qs11 qs12 qs13 qs14 qs15
        refine run_plain ?_
        first | refine op_pick_t rfl sn6 sn9 ?_ | refine op_pick_f rfl sn6 (hρ.const _) ?_
        exact detK.mk
      -- 11: slot 71 := Op.move t70
      refine sure_det (js := [(10, 70)]) (ts := []) (gd := none) (place_at HVS.out (k := 11) rfl) (by rw [HCS.out]; kernel_rfl) ?_ ?_
      · intro wx hx ρ hρ hs hf
        have hρc := hρ.const
        have hρf := hρ.func
        obtain ⟨sn10, -⟩ := hs
        rw [place_at HVS.out (k := 10) rfl] at sn10
        replace sn10 : ρ (.tmp 70) = _ := sn10
        clear hf
        clear HCS HVS qs5 qs8 qs9 qs10 qs11 qs12 qs13 qs14 qs15
        refine run_plain ?_
        refine op_move rfl sn10 ?_
        exact detK.mk
      -- 12: slot 72 := Op.load 42 t5
      refine sure_det (js := [(11, 71)]) (ts := [5]) (gd := (some (71, true))) (place_at HVS.out (k := 12) rfl) (by rw [HCS.out]; kernel_rfl) ?_ ?_
      · intro wx hx ρ hρ hs hf
        have hρc := hρ.const
        have hρf := hρ.func
        obtain ⟨sn11, -⟩ := hs
        obtain ⟨fx5, -⟩ := hf
        rw [qs5] at fx5
        rw [place_at HVS.out (k := 11) rfl] at sn11
        replace sn11 : ρ (.tmp 71) = _ := sn11
        clear HCS HVS qs5 qs8 qs9 qs10 qs11 qs12 qs13 qs14 qs15
        first
          | (refine run_passed sn11 ?_
             exact detK.mk)
          | (refine run_guarded sn11 ?_
             obtain ⟨m0, m1, m2, a0, a1, a2, b0, b1, b2⟩ := hall wx hx
             unfold runs
             go_simp
             exact detK.mk)
      -- 13: slot 73 := Op.call { call ( 25), args := #[t72], argTypes := #[42] }
      refine sure_det (js := [(12, 72), (11, 71)]) (ts := []) (gd := (some (71, true))) (place_at HVS.out (k := 13) rfl) (by rw [HCS.out]; kernel_rfl) ?_ ?_
      · intro wx hx ρ hρ hs hf
        have hρc := hρ.const
        have hρf := hρ.func
        obtain ⟨sn12, sn11, -⟩ := hs
        rw [place_at HVS.out (k := 12) rfl] at sn12
        replace sn12 : ρ (.tmp 72) = _ := sn12
        rw [place_at HVS.out (k := 11) rfl] at sn11
        replace sn11 : ρ (.tmp 71) = _ := sn11
        clear hf
        clear HCS HVS qs5 qs8 qs9 qs10 qs11 qs12 qs13 qs14 qs15
        first
          | (refine run_passed sn11 ?_
             exact detK.mk)
          | (refine run_guarded sn11 ?_
             refine op_call rfl hρ Try.call25 (map_one sn12) ?_
             first | ((with_reducible refine Calls.mono (cright_any _ _ _ _ _ _) ?_); rintro e w' ⟨rfl, hx5⟩; refine ⟨_, rfl, ?_⟩; exact detK.ext hx5) | ((with_reducible refine Calls.mono (mright_any _ _ _ _ _ _) ?_); rintro e w' ⟨rfl, hx5⟩; refine ⟨_, rfl, ?_⟩; exact detK.ext hx5) | ((with_reducible refine Calls.mono (pin_any _ (by omega) (by omega) _) ?_); rintro e w' ⟨rfl, rfl⟩; refine ⟨_, rfl, ?_⟩; exact detK.mk) | ((with_reducible refine Calls.mono (rpin_any _ (by omega) (by omega) _) ?_); rintro e w' ⟨rfl, rfl⟩; refine ⟨_, rfl, ?_⟩; exact detK.mk) | ((with_reducible refine Calls.mono (field_any _ _ _ (by omega) (by omega) (by omega) (by omega) (by omega) (by omega) _) ?_); rintro e w' ⟨rfl, rfl⟩; refine ⟨_, rfl, ?_⟩; exact detK.mk) | ((with_reducible refine Calls.mono (rfield_any _ _ _ (by omega) (by omega) (by omega) (by omega) (by omega) (by omega) _) ?_); rintro e w' ⟨rfl, rfl⟩; refine ⟨_, rfl, ?_⟩; exact detK.mk) | ((with_reducible refine Calls.mono (next_any _ _ (by omega) (by omega) (by omega) (by omega) _) ?_); rintro e w' ⟨rfl, rfl⟩; refine ⟨_, rfl, ?_⟩; exact detK.mk) | ((with_reducible refine Calls.mono (rnext_any _ _ (by omega) (by omega) (by omega) (by omega) _) ?_); rintro e w' ⟨rfl, rfl⟩; refine ⟨_, rfl, ?_⟩; exact detK.mk))
      -- 14: slot 74 := Op.load 42 t5
      refine sure_det (js := [(11, 71)]) (ts := [5]) (gd := (some (71, true))) (place_at HVS.out (k := 14) rfl) (by rw [HCS.out]; kernel_rfl) ?_ ?_
      · intro wx hx ρ hρ hs hf
        have hρc := hρ.const
        have hρf := hρ.func
        obtain ⟨sn11, -⟩ := hs
        obtain ⟨fx5, -⟩ := hf
        rw [qs5] at fx5
        rw [place_at HVS.out (k := 11) rfl] at sn11
        replace sn11 : ρ (.tmp 71) = _ := sn11
        clear HCS HVS qs5 qs8 qs9 qs10 qs11 qs12 qs13 qs14 qs15
        first
          | (refine run_passed sn11 ?_
             exact detK.mk)
          | (refine run_guarded sn11 ?_
             obtain ⟨m0, m1, m2, a0, a1, a2, b0, b1, b2⟩ := hall wx hx
             unfold runs
             go_simp
             exact detK.mk)
      -- 15: slot 75 := Op.call { call ( 26), args := #[t74], argTypes := #[42] }
      refine sure_det (js := [(14, 74), (11, 71)]) (ts := []) (gd := (some (71, true))) (place_at HVS.out (k := 15) rfl) (by rw [HCS.out]; kernel_rfl) ?_ ?_
      · intro wx hx ρ hρ hs hf
        have hρc := hρ.const
        have hρf := hρ.func
        obtain ⟨sn14, sn11, -⟩ := hs
        rw [place_at HVS.out (k := 14) rfl] at sn14
        replace sn14 : ρ (.tmp 74) = _ := sn14
        rw [place_at HVS.out (k := 11) rfl] at sn11
        replace sn11 : ρ (.tmp 71) = _ := sn11
        clear hf
        clear HCS HVS qs5 qs8 qs9 qs10 qs11 qs12 qs13 qs14 qs15
        first
          | (refine run_passed sn11 ?_
             exact detK.mk)
          | (refine run_guarded sn11 ?_
             refine op_call rfl hρ Try.call26 (map_one sn14) ?_
             first | ((with_reducible refine Calls.mono (cright_any _ _ _ _ _ _) ?_); rintro e w' ⟨rfl, hx5⟩; refine ⟨_, rfl, ?_⟩; exact detK.ext hx5) | ((with_reducible refine Calls.mono (mright_any _ _ _ _ _ _) ?_); rintro e w' ⟨rfl, hx5⟩; refine ⟨_, rfl, ?_⟩; exact detK.ext hx5) | ((with_reducible refine Calls.mono (pin_any _ (by omega) (by omega) _) ?_); rintro e w' ⟨rfl, rfl⟩; refine ⟨_, rfl, ?_⟩; exact detK.mk) | ((with_reducible refine Calls.mono (rpin_any _ (by omega) (by omega) _) ?_); rintro e w' ⟨rfl, rfl⟩; refine ⟨_, rfl, ?_⟩; exact detK.mk) | ((with_reducible refine Calls.mono (field_any _ _ _ (by omega) (by omega) (by omega) (by omega) (by omega) (by omega) _) ?_); rintro e w' ⟨rfl, rfl⟩; refine ⟨_, rfl, ?_⟩; exact detK.mk) | ((with_reducible refine Calls.mono (rfield_any _ _ _ (by omega) (by omega) (by omega) (by omega) (by omega) (by omega) _) ?_); rintro e w' ⟨rfl, rfl⟩; refine ⟨_, rfl, ?_⟩; exact detK.mk) | ((with_reducible refine Calls.mono (next_any _ _ (by omega) (by omega) (by omega) (by omega) _) ?_); rintro e w' ⟨rfl, rfl⟩; refine ⟨_, rfl, ?_⟩; exact detK.mk) | ((with_reducible refine Calls.mono (rnext_any _ _ (by omega) (by omega) (by omega) (by omega) _) ?_); rintro e w' ⟨rfl, rfl⟩; refine ⟨_, rfl, ?_⟩; exact detK.mk))
      -- 16: slot 76 := Op.binOp BinOp.eql 4 t73 t75 4
      refine sure_det (js := [(13, 73), (15, 75), (11, 71)]) (ts := []) (gd := (some (71, true))) (place_at HVS.out (k := 16) rfl) (by rw [HCS.out]; kernel_rfl) ?_ ?_
      · intro wx hx ρ hρ hs hf
        have hρc := hρ.const
        have hρf := hρ.func
        obtain ⟨sn13, sn15, sn11, -⟩ := hs
        rw [place_at HVS.out (k := 13) rfl] at sn13
        replace sn13 : ρ (.tmp 73) = _ := sn13
        rw [place_at HVS.out (k := 15) rfl] at sn15
        replace sn15 : ρ (.tmp 75) = _ := sn15
        rw [place_at HVS.out (k := 11) rfl] at sn11
        replace sn11 : ρ (.tmp 71) = _ := sn11
        clear hf
        clear HCS HVS qs5 qs8 qs9 qs10 qs11 qs12 qs13 qs14 qs15
        first
          | (refine run_passed sn11 ?_
             exact detK.mk)
          | (refine run_guarded sn11 ?_
             unfold runs
             go_simp
             exact detK.mk)
      -- 17: slot 77 := Op.pick t71 t76 ((Value.bool false))
      refine sure_det (js := [(11, 71), (16, 76)]) (ts := []) (gd := none) (place_at HVS.out (k := 17) rfl) (by rw [HCS.out]; kernel_rfl) ?_ ?_
      · intro wx hx ρ hρ hs hf
        have hρc := hρ.const
        have hρf := hρ.func
        obtain ⟨sn11, sn16, -⟩ := hs
        rw [place_at HVS.out (k := 11) rfl] at sn11
        replace sn11 : ρ (.tmp 71) = _ := sn11
        rw [place_at HVS.out (k := 16) rfl] at sn16
        replace sn16 : ρ (.tmp 76) = _ := sn16
        clear hf
        clear HCS HVS qs5 qs8 qs9 qs10 qs11 qs12 qs13 qs14 qs15
        refine run_plain ?_
        first | refine op_pick_t rfl sn11 sn16 ?_ | refine op_pick_f rfl sn11 (hρ.const _) ?_
        exact detK.mk
      -- 18: slot 78 := Op.move t77
      refine sure_det (js := [(17, 77)]) (ts := []) (gd := none) (place_at HVS.out (k := 18) rfl) (by rw [HCS.out]; kernel_rfl) ?_ ?_
      · intro wx hx ρ hρ hs hf
        have hρc := hρ.const
        have hρf := hρ.func
        obtain ⟨sn17, -⟩ := hs
        rw [place_at HVS.out (k := 17) rfl] at sn17
        replace sn17 : ρ (.tmp 77) = _ := sn17
        clear hf
        clear HCS HVS qs5 qs8 qs9 qs10 qs11 qs12 qs13 qs14 qs15
        refine run_plain ?_
        refine op_move rfl sn17 ?_
        exact detK.mk
      -- 19: slot 79 := Op.move t13
      refine sure_det (js := [(18, 78)]) (ts := [13]) (gd := (some (78, true))) (place_at HVS.out (k := 19) rfl) (by rw [HCS.out]; kernel_rfl) ?_ ?_
      · intro wx hx ρ hρ hs hf
        have hρc := hρ.const
        have hρf := hρ.func
        obtain ⟨sn18, -⟩ := hs
        obtain ⟨fx13, -⟩ := hf
        rw [qs13] at fx13
        rw [place_at HVS.out (k := 18) rfl] at sn18
        replace sn18 : ρ (.tmp 78) = _ := sn18
        clear HCS HVS qs5 qs8 qs9 qs10 qs11 qs12 qs13 qs14 qs15
        first
          | (refine run_passed sn18 ?_
             exact detK.mk)
          | (refine run_guarded sn18 ?_
             refine op_move rfl fx13 ?_
             exact detK.mk)
      -- 20: slot 80 := Op.binOp BinOp.sub 3 t79 ((i64 1)) 3
      refine sure_det (js := [(19, 79), (18, 78)]) (ts := []) (gd := (some (78, true))) (place_at HVS.out (k := 20) rfl) (by rw [HCS.out]; kernel_rfl) ?_ ?_
      · intro wx hx ρ hρ hs hf
        have hρc := hρ.const
        have hρf := hρ.func
        obtain ⟨sn19, sn18, -⟩ := hs
        rw [place_at HVS.out (k := 19) rfl] at sn19
        replace sn19 : ρ (.tmp 79) = _ := sn19
        rw [place_at HVS.out (k := 18) rfl] at sn18
        replace sn18 : ρ (.tmp 78) = _ := sn18
        clear hf
        clear HCS HVS qs5 qs8 qs9 qs10 qs11 qs12 qs13 qs14 qs15
        first
          | (refine run_passed sn18 ?_
             exact detK.mk)
          | (refine run_guarded sn18 ?_
             unfold runs
             go_simp
             exact detK.mk)
      -- 21: slot 81 := Op.call { call ( 27), args := #[t80], argTypes := #[3] }
      refine sure_det (js := [(20, 80), (18, 78)]) (ts := []) (gd := (some (78, true))) (place_at HVS.out (k := 21) rfl) (by rw [HCS.out]; kernel_rfl) ?_ ?_
      · intro wx hx ρ hρ hs hf
        have hρc := hρ.const
        have hρf := hρ.func
        obtain ⟨sn20, sn18, -⟩ := hs
        rw [place_at HVS.out (k := 20) rfl] at sn20
        replace sn20 : ρ (.tmp 80) = _ := sn20
        rw [place_at HVS.out (k := 18) rfl] at sn18
        replace sn18 : ρ (.tmp 78) = _ := sn18
        clear hf
        clear HCS HVS qs5 qs8 qs9 qs10 qs11 qs12 qs13 qs14 qs15
        first
          | (refine run_passed sn18 ?_
             exact detK.mk)
          | (refine run_guarded sn18 ?_
             refine op_call rfl hρ Try.call27 (map_one sn20) ?_
             first | ((with_reducible refine Calls.mono (cright_any _ _ _ _ _ _) ?_); rintro e w' ⟨rfl, hx5⟩; refine ⟨_, rfl, ?_⟩; exact detK.ext hx5) | ((with_reducible refine Calls.mono (mright_any _ _ _ _ _ _) ?_); rintro e w' ⟨rfl, hx5⟩; refine ⟨_, rfl, ?_⟩; exact detK.ext hx5) | ((with_reducible refine Calls.mono (pin_any _ (by omega) (by omega) _) ?_); rintro e w' ⟨rfl, rfl⟩; refine ⟨_, rfl, ?_⟩; exact detK.mk) | ((with_reducible refine Calls.mono (rpin_any _ (by omega) (by omega) _) ?_); rintro e w' ⟨rfl, rfl⟩; refine ⟨_, rfl, ?_⟩; exact detK.mk) | ((with_reducible refine Calls.mono (field_any _ _ _ (by omega) (by omega) (by omega) (by omega) (by omega) (by omega) _) ?_); rintro e w' ⟨rfl, rfl⟩; refine ⟨_, rfl, ?_⟩; exact detK.mk) | ((with_reducible refine Calls.mono (rfield_any _ _ _ (by omega) (by omega) (by omega) (by omega) (by omega) (by omega) _) ?_); rintro e w' ⟨rfl, rfl⟩; refine ⟨_, rfl, ?_⟩; exact detK.mk) | ((with_reducible refine Calls.mono (next_any _ _ (by omega) (by omega) (by omega) (by omega) _) ?_); rintro e w' ⟨rfl, rfl⟩; refine ⟨_, rfl, ?_⟩; exact detK.mk) | ((with_reducible refine Calls.mono (rnext_any _ _ (by omega) (by omega) (by omega) (by omega) _) ?_); rintro e w' ⟨rfl, rfl⟩; refine ⟨_, rfl, ?_⟩; exact detK.mk))
      -- 22: slot 82 := Op.move t13
      refine sure_det (js := [(18, 78)]) (ts := [13]) (gd := (some (78, true))) (place_at HVS.out (k := 22) rfl) (by rw [HCS.out]; kernel_rfl) ?_ ?_
      · intro wx hx ρ hρ hs hf
        have hρc := hρ.const
        have hρf := hρ.func
        obtain ⟨sn18, -⟩ := hs
        obtain ⟨fx13, -⟩ := hf
        rw [qs13] at fx13
        rw [place_at HVS.out (k := 18) rfl] at sn18
        replace sn18 : ρ (.tmp 78) = _ := sn18
        clear HCS HVS qs5 qs8 qs9 qs10 qs11 qs12 qs13 qs14 qs15
        first
          | (refine run_passed sn18 ?_
             exact detK.mk)
          | (refine run_guarded sn18 ?_
             refine op_move rfl fx13 ?_
             exact detK.mk)
      -- 23: slot 83 := Op.binOp BinOp.sub 3 t82 ((i64 1)) 3
      refine sure_det (js := [(22, 82), (18, 78)]) (ts := []) (gd := (some (78, true))) (place_at HVS.out (k := 23) rfl) (by rw [HCS.out]; kernel_rfl) ?_ ?_
      · intro wx hx ρ hρ hs hf
        have hρc := hρ.const
        have hρf := hρ.func
        obtain ⟨sn22, sn18, -⟩ := hs
        rw [place_at HVS.out (k := 22) rfl] at sn22
        replace sn22 : ρ (.tmp 82) = _ := sn22
        rw [place_at HVS.out (k := 18) rfl] at sn18
        replace sn18 : ρ (.tmp 78) = _ := sn18
        clear hf
        clear HCS HVS qs5 qs8 qs9 qs10 qs11 qs12 qs13 qs14 qs15
        first
          | (refine run_passed sn18 ?_
             exact detK.mk)
          | (refine run_guarded sn18 ?_
             unfold runs
             go_simp
             exact detK.mk)
      -- 24: slot 84 := Op.call { call ( 28), args := #[t83], argTypes := #[3] }
      refine sure_det (js := [(23, 83), (18, 78)]) (ts := []) (gd := (some (78, true))) (place_at HVS.out (k := 24) rfl) (by rw [HCS.out]; kernel_rfl) ?_ ?_
      · intro wx hx ρ hρ hs hf
        have hρc := hρ.const
        have hρf := hρ.func
        obtain ⟨sn23, sn18, -⟩ := hs
        rw [place_at HVS.out (k := 23) rfl] at sn23
        replace sn23 : ρ (.tmp 83) = _ := sn23
        rw [place_at HVS.out (k := 18) rfl] at sn18
        replace sn18 : ρ (.tmp 78) = _ := sn18
        clear hf
        clear HCS HVS qs5 qs8 qs9 qs10 qs11 qs12 qs13 qs14 qs15
        first
          | (refine run_passed sn18 ?_
             exact detK.mk)
          | (refine run_guarded sn18 ?_
             refine op_call rfl hρ Try.call28 (map_one sn23) ?_
             first | ((with_reducible refine Calls.mono (cright_any _ _ _ _ _ _) ?_); rintro e w' ⟨rfl, hx5⟩; refine ⟨_, rfl, ?_⟩; exact detK.ext hx5) | ((with_reducible refine Calls.mono (mright_any _ _ _ _ _ _) ?_); rintro e w' ⟨rfl, hx5⟩; refine ⟨_, rfl, ?_⟩; exact detK.ext hx5) | ((with_reducible refine Calls.mono (pin_any _ (by omega) (by omega) _) ?_); rintro e w' ⟨rfl, rfl⟩; refine ⟨_, rfl, ?_⟩; exact detK.mk) | ((with_reducible refine Calls.mono (rpin_any _ (by omega) (by omega) _) ?_); rintro e w' ⟨rfl, rfl⟩; refine ⟨_, rfl, ?_⟩; exact detK.mk) | ((with_reducible refine Calls.mono (field_any _ _ _ (by omega) (by omega) (by omega) (by omega) (by omega) (by omega) _) ?_); rintro e w' ⟨rfl, rfl⟩; refine ⟨_, rfl, ?_⟩; exact detK.mk) | ((with_reducible refine Calls.mono (rfield_any _ _ _ (by omega) (by omega) (by omega) (by omega) (by omega) (by omega) _) ?_); rintro e w' ⟨rfl, rfl⟩; refine ⟨_, rfl, ?_⟩; exact detK.mk) | ((with_reducible refine Calls.mono (next_any _ _ (by omega) (by omega) (by omega) (by omega) _) ?_); rintro e w' ⟨rfl, rfl⟩; refine ⟨_, rfl, ?_⟩; exact detK.mk) | ((with_reducible refine Calls.mono (rnext_any _ _ (by omega) (by omega) (by omega) (by omega) _) ?_); rintro e w' ⟨rfl, rfl⟩; refine ⟨_, rfl, ?_⟩; exact detK.mk))
      -- 25: slot 85 := Op.binOp BinOp.eql 3 t81 t84 3
      refine sure_det (js := [(21, 81), (24, 84), (18, 78)]) (ts := []) (gd := (some (78, true))) (place_at HVS.out (k := 25) rfl) (by rw [HCS.out]; kernel_rfl) ?_ ?_
      · intro wx hx ρ hρ hs hf
        have hρc := hρ.const
        have hρf := hρ.func
        obtain ⟨sn21, sn24, sn18, -⟩ := hs
        rw [place_at HVS.out (k := 21) rfl] at sn21
        replace sn21 : ρ (.tmp 81) = _ := sn21
        rw [place_at HVS.out (k := 24) rfl] at sn24
        replace sn24 : ρ (.tmp 84) = _ := sn24
        rw [place_at HVS.out (k := 18) rfl] at sn18
        replace sn18 : ρ (.tmp 78) = _ := sn18
        clear hf
        clear HCS HVS qs5 qs8 qs9 qs10 qs11 qs12 qs13 qs14 qs15
        first
          | (refine run_passed sn18 ?_
             exact detK.mk)
          | (refine run_guarded sn18 ?_
             unfold runs
             go_simp
             exact detK.mk)
      -- 26: slot 86 := Op.pick t78 t85 ((Value.bool false))
      refine sure_det (js := [(18, 78), (25, 85)]) (ts := []) (gd := none) (place_at HVS.out (k := 26) rfl) (by rw [HCS.out]; kernel_rfl) ?_ ?_
      · intro wx hx ρ hρ hs hf
        have hρc := hρ.const
        have hρf := hρ.func
        obtain ⟨sn18, sn25, -⟩ := hs
        rw [place_at HVS.out (k := 18) rfl] at sn18
        replace sn18 : ρ (.tmp 78) = _ := sn18
        rw [place_at HVS.out (k := 25) rfl] at sn25
        replace sn25 : ρ (.tmp 85) = _ := sn25
        clear hf
        clear HCS HVS qs5 qs8 qs9 qs10 qs11 qs12 qs13 qs14 qs15
        refine run_plain ?_
        first | refine op_pick_t rfl sn18 sn25 ?_ | refine op_pick_f rfl sn18 (hρ.const _) ?_
        exact detK.mk
      -- 27: slot 87 := Op.move t86
      refine sure_det (js := [(26, 86)]) (ts := []) (gd := none) (place_at HVS.out (k := 27) rfl) (by rw [HCS.out]; kernel_rfl) ?_ ?_
      · intro wx hx ρ hρ hs hf
        have hρc := hρ.const
        have hρf := hρ.func
        obtain ⟨sn26, -⟩ := hs
        rw [place_at HVS.out (k := 26) rfl] at sn26
        replace sn26 : ρ (.tmp 86) = _ := sn26
        clear hf
        clear HCS HVS qs5 qs8 qs9 qs10 qs11 qs12 qs13 qs14 qs15
        refine run_plain ?_
        refine op_move rfl sn26 ?_
        exact detK.mk
      -- 28: slot 88 := Op.move t13
      refine sure_det (js := [(27, 87)]) (ts := [13]) (gd := (some (87, true))) (place_at HVS.out (k := 28) rfl) (by rw [HCS.out]; kernel_rfl) ?_ ?_
      · intro wx hx ρ hρ hs hf
        have hρc := hρ.const
        have hρf := hρ.func
        obtain ⟨sn27, -⟩ := hs
        obtain ⟨fx13, -⟩ := hf
        rw [qs13] at fx13
        rw [place_at HVS.out (k := 27) rfl] at sn27
        replace sn27 : ρ (.tmp 87) = _ := sn27
        clear HCS HVS qs5 qs8 qs9 qs10 qs11 qs12 qs13 qs14 qs15
        first
          | (refine run_passed sn27 ?_
             exact detK.mk)
          | (refine run_guarded sn27 ?_
             refine op_move rfl fx13 ?_
             exact detK.mk)
      -- 29: slot 89 := Op.move t14
      refine sure_det (js := [(27, 87)]) (ts := [14]) (gd := (some (87, true))) (place_at HVS.out (k := 29) rfl) (by rw [HCS.out]; kernel_rfl) ?_ ?_
      · intro wx hx ρ hρ hs hf
        have hρc := hρ.const
        have hρf := hρ.func
        obtain ⟨sn27, -⟩ := hs
        obtain ⟨fx14, -⟩ := hf
        rw [qs14] at fx14
        rw [place_at HVS.out (k := 27) rfl] at sn27
        replace sn27 : ρ (.tmp 87) = _ := sn27
        clear HCS HVS qs5 qs8 qs9 qs10 qs11 qs12 qs13 qs14 qs15
        first
          | (refine run_passed sn27 ?_
             exact detK.mk)
          | (refine run_guarded sn27 ?_
             refine op_move rfl fx14 ?_
             exact detK.mk)
      -- 30: slot 90 := Op.binOp BinOp.add 3 ((i64 1)) t89 3
      refine sure_det (js := [(29, 89), (27, 87)]) (ts := []) (gd := (some (87, true))) (place_at HVS.out (k := 30) rfl) (by rw [HCS.out]; kernel_rfl) ?_ ?_
      · intro wx hx ρ hρ hs hf
        have hρc := hρ.const
        have hρf := hρ.func
        obtain ⟨sn29, sn27, -⟩ := hs
        rw [place_at HVS.out (k := 29) rfl] at sn29
        replace sn29 : ρ (.tmp 89) = _ := sn29
        rw [place_at HVS.out (k := 27) rfl] at sn27
        replace sn27 : ρ (.tmp 87) = _ := sn27
        clear hf
        clear HCS HVS qs5 qs8 qs9 qs10 qs11 qs12 qs13 qs14 qs15
        first
          | (refine run_passed sn27 ?_
             exact detK.mk)
          | (refine run_guarded sn27 ?_
             unfold runs
             go_simp
             exact detK.mk)
      -- 31: slot 91 := Op.move t15
      refine sure_det (js := [(27, 87)]) (ts := [15]) (gd := (some (87, true))) (place_at HVS.out (k := 31) rfl) (by rw [HCS.out]; kernel_rfl) ?_ ?_
      · intro wx hx ρ hρ hs hf
        have hρc := hρ.const
        have hρf := hρ.func
        obtain ⟨sn27, -⟩ := hs
        obtain ⟨fx15, -⟩ := hf
        rw [qs15] at fx15
        rw [place_at HVS.out (k := 27) rfl] at sn27
        replace sn27 : ρ (.tmp 87) = _ := sn27
        clear HCS HVS qs5 qs8 qs9 qs10 qs11 qs12 qs13 qs14 qs15
        first
          | (refine run_passed sn27 ?_
             exact detK.mk)
          | (refine run_guarded sn27 ?_
             refine op_move rfl fx15 ?_
             exact detK.mk)
      -- 32: slot 92 := Op.call { call ( 29), args := #[t88, t90, t91], argTypes := #[3, 3, 3] }
      refine sure_det (js := [(28, 88), (30, 90), (31, 91), (27, 87)]) (ts := []) (gd := (some (87, true))) (place_at HVS.out (k := 32) rfl) (by rw [HCS.out]; kernel_rfl) ?_ ?_
      · intro wx hx ρ hρ hs hf
        have hρc := hρ.const
        have hρf := hρ.func
        obtain ⟨sn28, sn30, sn31, sn27, -⟩ := hs
        rw [place_at HVS.out (k := 28) rfl] at sn28
        replace sn28 : ρ (.tmp 88) = _ := sn28
        rw [place_at HVS.out (k := 30) rfl] at sn30
        replace sn30 : ρ (.tmp 90) = _ := sn30
        rw [place_at HVS.out (k := 31) rfl] at sn31
        replace sn31 : ρ (.tmp 91) = _ := sn31
        rw [place_at HVS.out (k := 27) rfl] at sn27
        replace sn27 : ρ (.tmp 87) = _ := sn27
        clear hf
        clear HCS HVS qs5 qs8 qs9 qs10 qs11 qs12 qs13 qs14 qs15
        first
          | (refine run_passed sn27 ?_
             exact detK.mk)
          | (refine run_guarded sn27 ?_
             refine op_call rfl hρ Try.call29 (map_three sn28 sn30 sn31) ?_
             first | ((with_reducible refine Calls.mono (cright_any _ _ _ _ _ _) ?_); rintro e w' ⟨rfl, hx5⟩; refine ⟨_, rfl, ?_⟩; exact detK.ext hx5) | ((with_reducible refine Calls.mono (mright_any _ _ _ _ _ _) ?_); rintro e w' ⟨rfl, hx5⟩; refine ⟨_, rfl, ?_⟩; exact detK.ext hx5) | ((with_reducible refine Calls.mono (pin_any _ (by omega) (by omega) _) ?_); rintro e w' ⟨rfl, rfl⟩; refine ⟨_, rfl, ?_⟩; exact detK.mk) | ((with_reducible refine Calls.mono (rpin_any _ (by omega) (by omega) _) ?_); rintro e w' ⟨rfl, rfl⟩; refine ⟨_, rfl, ?_⟩; exact detK.mk) | ((with_reducible refine Calls.mono (field_any _ _ _ (by omega) (by omega) (by omega) (by omega) (by omega) (by omega) _) ?_); rintro e w' ⟨rfl, rfl⟩; refine ⟨_, rfl, ?_⟩; exact detK.mk) | ((with_reducible refine Calls.mono (rfield_any _ _ _ (by omega) (by omega) (by omega) (by omega) (by omega) (by omega) _) ?_); rintro e w' ⟨rfl, rfl⟩; refine ⟨_, rfl, ?_⟩; exact detK.mk) | ((with_reducible refine Calls.mono (next_any _ _ (by omega) (by omega) (by omega) (by omega) _) ?_); rintro e w' ⟨rfl, rfl⟩; refine ⟨_, rfl, ?_⟩; exact detK.mk) | ((with_reducible refine Calls.mono (rnext_any _ _ (by omega) (by omega) (by omega) (by omega) _) ?_); rintro e w' ⟨rfl, rfl⟩; refine ⟨_, rfl, ?_⟩; exact detK.mk))
      -- 33: slot 93 := Op.move t13
      refine sure_det (js := [(27, 87)]) (ts := [13]) (gd := (some (87, true))) (place_at HVS.out (k := 33) rfl) (by rw [HCS.out]; kernel_rfl) ?_ ?_
      · intro wx hx ρ hρ hs hf
        have hρc := hρ.const
        have hρf := hρ.func
        obtain ⟨sn27, -⟩ := hs
        obtain ⟨fx13, -⟩ := hf
        rw [qs13] at fx13
        rw [place_at HVS.out (k := 27) rfl] at sn27
        replace sn27 : ρ (.tmp 87) = _ := sn27
        clear HCS HVS qs5 qs8 qs9 qs10 qs11 qs12 qs13 qs14 qs15
        first
          | (refine run_passed sn27 ?_
             exact detK.mk)
          | (refine run_guarded sn27 ?_
             refine op_move rfl fx13 ?_
             exact detK.mk)
      -- 34: slot 94 := Op.move t14
      refine sure_det (js := [(27, 87)]) (ts := [14]) (gd := (some (87, true))) (place_at HVS.out (k := 34) rfl) (by rw [HCS.out]; kernel_rfl) ?_ ?_
      · intro wx hx ρ hρ hs hf
        have hρc := hρ.const
        have hρf := hρ.func
        obtain ⟨sn27, -⟩ := hs
        obtain ⟨fx14, -⟩ := hf
        rw [qs14] at fx14
        rw [place_at HVS.out (k := 27) rfl] at sn27
        replace sn27 : ρ (.tmp 87) = _ := sn27
        clear HCS HVS qs5 qs8 qs9 qs10 qs11 qs12 qs13 qs14 qs15
        first
          | (refine run_passed sn27 ?_
             exact detK.mk)
          | (refine run_guarded sn27 ?_
             refine op_move rfl fx14 ?_
             exact detK.mk)
      -- 35: slot 95 := Op.binOp BinOp.add 3 ((i64 1)) t94 3
      refine sure_det (js := [(34, 94), (27, 87)]) (ts := []) (gd := (some (87, true))) (place_at HVS.out (k := 35) rfl) (by rw [HCS.out]; kernel_rfl) ?_ ?_
      · intro wx hx ρ hρ hs hf
        have hρc := hρ.const
        have hρf := hρ.func
        obtain ⟨sn34, sn27, -⟩ := hs
        rw [place_at HVS.out (k := 34) rfl] at sn34
        replace sn34 : ρ (.tmp 94) = _ := sn34
        rw [place_at HVS.out (k := 27) rfl] at sn27
        replace sn27 : ρ (.tmp 87) = _ := sn27
        clear hf
        clear HCS HVS qs5 qs8 qs9 qs10 qs11 qs12 qs13 qs14 qs15
        first
          | (refine run_passed sn27 ?_
             exact detK.mk)
          | (refine run_guarded sn27 ?_
             unfold runs
             go_simp
             exact detK.mk)
      -- 36: slot 96 := Op.move t15
      refine sure_det (js := [(27, 87)]) (ts := [15]) (gd := (some (87, true))) (place_at HVS.out (k := 36) rfl) (by rw [HCS.out]; kernel_rfl) ?_ ?_
      · intro wx hx ρ hρ hs hf
        have hρc := hρ.const
        have hρf := hρ.func
        obtain ⟨sn27, -⟩ := hs
        obtain ⟨fx15, -⟩ := hf
        rw [qs15] at fx15
        rw [place_at HVS.out (k := 27) rfl] at sn27
        replace sn27 : ρ (.tmp 87) = _ := sn27
        clear HCS HVS qs5 qs8 qs9 qs10 qs11 qs12 qs13 qs14 qs15
        first
          | (refine run_passed sn27 ?_
             exact detK.mk)
          | (refine run_guarded sn27 ?_
             refine op_move rfl fx15 ?_
             exact detK.mk)
      -- 37: slot 97 := Op.call { call ( 30), args := #[t93, t95, t96], argTypes := #[3, 3, 3] }
      refine sure_det (js := [(33, 93), (35, 95), (36, 96), (27, 87)]) (ts := []) (gd := (some (87, true))) (place_at HVS.out (k := 37) rfl) (by rw [HCS.out]; kernel_rfl) ?_ ?_
      · intro wx hx ρ hρ hs hf
        have hρc := hρ.const
        have hρf := hρ.func
        obtain ⟨sn33, sn35, sn36, sn27, -⟩ := hs
        rw [place_at HVS.out (k := 33) rfl] at sn33
        replace sn33 : ρ (.tmp 93) = _ := sn33
        rw [place_at HVS.out (k := 35) rfl] at sn35
        replace sn35 : ρ (.tmp 95) = _ := sn35
        rw [place_at HVS.out (k := 36) rfl] at sn36
        replace sn36 : ρ (.tmp 96) = _ := sn36
        rw [place_at HVS.out (k := 27) rfl] at sn27
        replace sn27 : ρ (.tmp 87) = _ := sn27
        clear hf
        clear HCS HVS qs5 qs8 qs9 qs10 qs11 qs12 qs13 qs14 qs15
        first
          | (refine run_passed sn27 ?_
             exact detK.mk)
          | (refine run_guarded sn27 ?_
             refine op_call rfl hρ Try.call30 (map_three sn33 sn35 sn36) ?_
             first | ((with_reducible refine Calls.mono (cright_any _ _ _ _ _ _) ?_); rintro e w' ⟨rfl, hx5⟩; refine ⟨_, rfl, ?_⟩; exact detK.ext hx5) | ((with_reducible refine Calls.mono (mright_any _ _ _ _ _ _) ?_); rintro e w' ⟨rfl, hx5⟩; refine ⟨_, rfl, ?_⟩; exact detK.ext hx5) | ((with_reducible refine Calls.mono (pin_any _ (by omega) (by omega) _) ?_); rintro e w' ⟨rfl, rfl⟩; refine ⟨_, rfl, ?_⟩; exact detK.mk) | ((with_reducible refine Calls.mono (rpin_any _ (by omega) (by omega) _) ?_); rintro e w' ⟨rfl, rfl⟩; refine ⟨_, rfl, ?_⟩; exact detK.mk) | ((with_reducible refine Calls.mono (field_any _ _ _ (by omega) (by omega) (by omega) (by omega) (by omega) (by omega) _) ?_); rintro e w' ⟨rfl, rfl⟩; refine ⟨_, rfl, ?_⟩; exact detK.mk) | ((with_reducible refine Calls.mono (rfield_any _ _ _ (by omega) (by omega) (by omega) (by omega) (by omega) (by omega) _) ?_); rintro e w' ⟨rfl, rfl⟩; refine ⟨_, rfl, ?_⟩; exact detK.mk) | ((with_reducible refine Calls.mono (next_any _ _ (by omega) (by omega) (by omega) (by omega) _) ?_); rintro e w' ⟨rfl, rfl⟩; refine ⟨_, rfl, ?_⟩; exact detK.mk) | ((with_reducible refine Calls.mono (rnext_any _ _ (by omega) (by omega) (by omega) (by omega) _) ?_); rintro e w' ⟨rfl, rfl⟩; refine ⟨_, rfl, ?_⟩; exact detK.mk))
      -- 38: slot 98 := Op.binOp BinOp.eql 3 t92 t97 3
      refine sure_det (js := [(32, 92), (37, 97), (27, 87)]) (ts := []) (gd := (some (87, true))) (place_at HVS.out (k := 38) rfl) (by rw [HCS.out]; kernel_rfl) ?_ ?_
      · intro wx hx ρ hρ hs hf
        have hρc := hρ.const
        have hρf := hρ.func
        obtain ⟨sn32, sn37, sn27, -⟩ := hs
        rw [place_at HVS.out (k := 32) rfl] at sn32
        replace sn32 : ρ (.tmp 92) = _ := sn32
        rw [place_at HVS.out (k := 37) rfl] at sn37
        replace sn37 : ρ (.tmp 97) = _ := sn37
        rw [place_at HVS.out (k := 27) rfl] at sn27
        replace sn27 : ρ (.tmp 87) = _ := sn27
        clear hf
        clear HCS HVS qs5 qs8 qs9 qs10 qs11 qs12 qs13 qs14 qs15
        first
          | (refine run_passed sn27 ?_
             exact detK.mk)
          | (refine run_guarded sn27 ?_
             unfold runs
             go_simp
             exact detK.mk)
      -- 39: slot 99 := Op.pick t87 t98 ((Value.bool false))
      refine sure_det (js := [(27, 87), (38, 98)]) (ts := []) (gd := none) (place_at HVS.out (k := 39) rfl) (by rw [HCS.out]; kernel_rfl) ?_ ?_
      · intro wx hx ρ hρ hs hf
        have hρc := hρ.const
        have hρf := hρ.func
        obtain ⟨sn27, sn38, -⟩ := hs
        rw [place_at HVS.out (k := 27) rfl] at sn27
        replace sn27 : ρ (.tmp 87) = _ := sn27
        rw [place_at HVS.out (k := 38) rfl] at sn38
        replace sn38 : ρ (.tmp 98) = _ := sn38
        clear hf
        clear HCS HVS qs5 qs8 qs9 qs10 qs11 qs12 qs13 qs14 qs15
        refine run_plain ?_
        first | refine op_pick_t rfl sn27 sn38 ?_ | refine op_pick_f rfl sn27 (hρ.const _) ?_
        exact detK.mk
      -- 40: slot 100 := Op.move t99
      refine sure_det (js := [(39, 99)]) (ts := []) (gd := none) (place_at HVS.out (k := 40) rfl) (by rw [HCS.out]; kernel_rfl) ?_ ?_
      · intro wx hx ρ hρ hs hf
        have hρc := hρ.const
        have hρf := hρ.func
        obtain ⟨sn39, -⟩ := hs
        rw [place_at HVS.out (k := 39) rfl] at sn39
        replace sn39 : ρ (.tmp 99) = _ := sn39
        clear hf
        clear HCS HVS qs5 qs8 qs9 qs10 qs11 qs12 qs13 qs14 qs15
        refine run_plain ?_
        refine op_move rfl sn39 ?_
        exact detK.mk
      -- 41: slot 101 := Op.move t13
      refine sure_det (js := [(40, 100)]) (ts := [13]) (gd := (some (100, true))) (place_at HVS.out (k := 41) rfl) (by rw [HCS.out]; kernel_rfl) ?_ ?_
      · intro wx hx ρ hρ hs hf
        have hρc := hρ.const
        have hρf := hρ.func
        obtain ⟨sn40, -⟩ := hs
        obtain ⟨fx13, -⟩ := hf
        rw [qs13] at fx13
        rw [place_at HVS.out (k := 40) rfl] at sn40
        replace sn40 : ρ (.tmp 100) = _ := sn40
        clear HCS HVS qs5 qs8 qs9 qs10 qs11 qs12 qs13 qs14 qs15
        first
          | (refine run_passed sn40 ?_
             exact detK.mk)
          | (refine run_guarded sn40 ?_
             refine op_move rfl fx13 ?_
             exact detK.mk)
      -- 42: slot 102 := Op.move t14
      refine sure_det (js := [(40, 100)]) (ts := [14]) (gd := (some (100, true))) (place_at HVS.out (k := 42) rfl) (by rw [HCS.out]; kernel_rfl) ?_ ?_
      · intro wx hx ρ hρ hs hf
        have hρc := hρ.const
        have hρf := hρ.func
        obtain ⟨sn40, -⟩ := hs
        obtain ⟨fx14, -⟩ := hf
        rw [qs14] at fx14
        rw [place_at HVS.out (k := 40) rfl] at sn40
        replace sn40 : ρ (.tmp 100) = _ := sn40
        clear HCS HVS qs5 qs8 qs9 qs10 qs11 qs12 qs13 qs14 qs15
        first
          | (refine run_passed sn40 ?_
             exact detK.mk)
          | (refine run_guarded sn40 ?_
             refine op_move rfl fx14 ?_
             exact detK.mk)
      -- 43: slot 103 := Op.call { call ( 31), args := #[t101, t102], argTypes := #[3, 3] }
      refine sure_det (js := [(41, 101), (42, 102), (40, 100)]) (ts := []) (gd := (some (100, true))) (place_at HVS.out (k := 43) rfl) (by rw [HCS.out]; kernel_rfl) ?_ ?_
      · intro wx hx ρ hρ hs hf
        have hρc := hρ.const
        have hρf := hρ.func
        obtain ⟨sn41, sn42, sn40, -⟩ := hs
        rw [place_at HVS.out (k := 41) rfl] at sn41
        replace sn41 : ρ (.tmp 101) = _ := sn41
        rw [place_at HVS.out (k := 42) rfl] at sn42
        replace sn42 : ρ (.tmp 102) = _ := sn42
        rw [place_at HVS.out (k := 40) rfl] at sn40
        replace sn40 : ρ (.tmp 100) = _ := sn40
        clear hf
        clear HCS HVS qs5 qs8 qs9 qs10 qs11 qs12 qs13 qs14 qs15
        first
          | (refine run_passed sn40 ?_
             exact detK.mk)
          | (refine run_guarded sn40 ?_
             refine op_call rfl hρ Try.call31 (map_two sn41 sn42) ?_
             first | ((with_reducible refine Calls.mono (cright_any _ _ _ _ _ _) ?_); rintro e w' ⟨rfl, hx5⟩; refine ⟨_, rfl, ?_⟩; exact detK.ext hx5) | ((with_reducible refine Calls.mono (mright_any _ _ _ _ _ _) ?_); rintro e w' ⟨rfl, hx5⟩; refine ⟨_, rfl, ?_⟩; exact detK.ext hx5) | ((with_reducible refine Calls.mono (pin_any _ (by omega) (by omega) _) ?_); rintro e w' ⟨rfl, rfl⟩; refine ⟨_, rfl, ?_⟩; exact detK.mk) | ((with_reducible refine Calls.mono (rpin_any _ (by omega) (by omega) _) ?_); rintro e w' ⟨rfl, rfl⟩; refine ⟨_, rfl, ?_⟩; exact detK.mk) | ((with_reducible refine Calls.mono (field_any _ _ _ (by omega) (by omega) (by omega) (by omega) (by omega) (by omega) _) ?_); rintro e w' ⟨rfl, rfl⟩; refine ⟨_, rfl, ?_⟩; exact detK.mk) | ((with_reducible refine Calls.mono (rfield_any _ _ _ (by omega) (by omega) (by omega) (by omega) (by omega) (by omega) _) ?_); rintro e w' ⟨rfl, rfl⟩; refine ⟨_, rfl, ?_⟩; exact detK.mk) | ((with_reducible refine Calls.mono (next_any _ _ (by omega) (by omega) (by omega) (by omega) _) ?_); rintro e w' ⟨rfl, rfl⟩; refine ⟨_, rfl, ?_⟩; exact detK.mk) | ((with_reducible refine Calls.mono (rnext_any _ _ (by omega) (by omega) (by omega) (by omega) _) ?_); rintro e w' ⟨rfl, rfl⟩; refine ⟨_, rfl, ?_⟩; exact detK.mk))
      -- 44: slot 104 := Op.move t13
      refine sure_det (js := [(40, 100)]) (ts := [13]) (gd := (some (100, true))) (place_at HVS.out (k := 44) rfl) (by rw [HCS.out]; kernel_rfl) ?_ ?_
      · intro wx hx ρ hρ hs hf
        have hρc := hρ.const
        have hρf := hρ.func
        obtain ⟨sn40, -⟩ := hs
        obtain ⟨fx13, -⟩ := hf
        rw [qs13] at fx13
        rw [place_at HVS.out (k := 40) rfl] at sn40
        replace sn40 : ρ (.tmp 100) = _ := sn40
        clear HCS HVS qs5 qs8 qs9 qs10 qs11 qs12 qs13 qs14 qs15
        first
          | (refine run_passed sn40 ?_
             exact detK.mk)
          | (refine run_guarded sn40 ?_
             refine op_move rfl fx13 ?_
             exact detK.mk)
      -- 45: slot 105 := Op.move t14
      refine sure_det (js := [(40, 100)]) (ts := [14]) (gd := (some (100, true))) (place_at HVS.out (k := 45) rfl) (by rw [HCS.out]; kernel_rfl) ?_ ?_
      · intro wx hx ρ hρ hs hf
        have hρc := hρ.const
        have hρf := hρ.func
        obtain ⟨sn40, -⟩ := hs
        obtain ⟨fx14, -⟩ := hf
        rw [qs14] at fx14
        rw [place_at HVS.out (k := 40) rfl] at sn40
        replace sn40 : ρ (.tmp 100) = _ := sn40
        clear HCS HVS qs5 qs8 qs9 qs10 qs11 qs12 qs13 qs14 qs15
        first
          | (refine run_passed sn40 ?_
             exact detK.mk)
          | (refine run_guarded sn40 ?_
             refine op_move rfl fx14 ?_
             exact detK.mk)
      -- 46: slot 106 := Op.call { call ( 32), args := #[t104, t105], argTypes := #[3, 3] }
      refine sure_det (js := [(44, 104), (45, 105), (40, 100)]) (ts := []) (gd := (some (100, true))) (place_at HVS.out (k := 46) rfl) (by rw [HCS.out]; kernel_rfl) ?_ ?_
      · intro wx hx ρ hρ hs hf
        have hρc := hρ.const
        have hρf := hρ.func
        obtain ⟨sn44, sn45, sn40, -⟩ := hs
        rw [place_at HVS.out (k := 44) rfl] at sn44
        replace sn44 : ρ (.tmp 104) = _ := sn44
        rw [place_at HVS.out (k := 45) rfl] at sn45
        replace sn45 : ρ (.tmp 105) = _ := sn45
        rw [place_at HVS.out (k := 40) rfl] at sn40
        replace sn40 : ρ (.tmp 100) = _ := sn40
        clear hf
        clear HCS HVS qs5 qs8 qs9 qs10 qs11 qs12 qs13 qs14 qs15
        first
          | (refine run_passed sn40 ?_
             exact detK.mk)
          | (refine run_guarded sn40 ?_
             refine op_call rfl hρ Try.call32 (map_two sn44 sn45) ?_
             first | ((with_reducible refine Calls.mono (cright_any _ _ _ _ _ _) ?_); rintro e w' ⟨rfl, hx5⟩; refine ⟨_, rfl, ?_⟩; exact detK.ext hx5) | ((with_reducible refine Calls.mono (mright_any _ _ _ _ _ _) ?_); rintro e w' ⟨rfl, hx5⟩; refine ⟨_, rfl, ?_⟩; exact detK.ext hx5) | ((with_reducible refine Calls.mono (pin_any _ (by omega) (by omega) _) ?_); rintro e w' ⟨rfl, rfl⟩; refine ⟨_, rfl, ?_⟩; exact detK.mk) | ((with_reducible refine Calls.mono (rpin_any _ (by omega) (by omega) _) ?_); rintro e w' ⟨rfl, rfl⟩; refine ⟨_, rfl, ?_⟩; exact detK.mk) | ((with_reducible refine Calls.mono (field_any _ _ _ (by omega) (by omega) (by omega) (by omega) (by omega) (by omega) _) ?_); rintro e w' ⟨rfl, rfl⟩; refine ⟨_, rfl, ?_⟩; exact detK.mk) | ((with_reducible refine Calls.mono (rfield_any _ _ _ (by omega) (by omega) (by omega) (by omega) (by omega) (by omega) _) ?_); rintro e w' ⟨rfl, rfl⟩; refine ⟨_, rfl, ?_⟩; exact detK.mk) | ((with_reducible refine Calls.mono (next_any _ _ (by omega) (by omega) (by omega) (by omega) _) ?_); rintro e w' ⟨rfl, rfl⟩; refine ⟨_, rfl, ?_⟩; exact detK.mk) | ((with_reducible refine Calls.mono (rnext_any _ _ (by omega) (by omega) (by omega) (by omega) _) ?_); rintro e w' ⟨rfl, rfl⟩; refine ⟨_, rfl, ?_⟩; exact detK.mk))
      -- 47: slot 107 := Op.binOp BinOp.eql 3 t103 t106 3
      refine sure_det (js := [(43, 103), (46, 106), (40, 100)]) (ts := []) (gd := (some (100, true))) (place_at HVS.out (k := 47) rfl) (by rw [HCS.out]; kernel_rfl) ?_ ?_
      · intro wx hx ρ hρ hs hf
        have hρc := hρ.const
        have hρf := hρ.func
        obtain ⟨sn43, sn46, sn40, -⟩ := hs
        rw [place_at HVS.out (k := 43) rfl] at sn43
        replace sn43 : ρ (.tmp 103) = _ := sn43
        rw [place_at HVS.out (k := 46) rfl] at sn46
        replace sn46 : ρ (.tmp 106) = _ := sn46
        rw [place_at HVS.out (k := 40) rfl] at sn40
        replace sn40 : ρ (.tmp 100) = _ := sn40
        clear hf
        clear HCS HVS qs5 qs8 qs9 qs10 qs11 qs12 qs13 qs14 qs15
        first
          | (refine run_passed sn40 ?_
             exact detK.mk)
          | (refine run_guarded sn40 ?_
             unfold runs
             go_simp
             exact detK.mk)
      -- 48: slot 108 := Op.pick t100 t107 ((Value.bool false))
      refine sure_det (js := [(40, 100), (47, 107)]) (ts := []) (gd := none) (place_at HVS.out (k := 48) rfl) (by rw [HCS.out]; kernel_rfl) ?_ ?_
      · intro wx hx ρ hρ hs hf
        have hρc := hρ.const
        have hρf := hρ.func
        obtain ⟨sn40, sn47, -⟩ := hs
        rw [place_at HVS.out (k := 40) rfl] at sn40
        replace sn40 : ρ (.tmp 100) = _ := sn40
        rw [place_at HVS.out (k := 47) rfl] at sn47
        replace sn47 : ρ (.tmp 107) = _ := sn47
        clear hf
        clear HCS HVS qs5 qs8 qs9 qs10 qs11 qs12 qs13 qs14 qs15
        refine run_plain ?_
        first | refine op_pick_t rfl sn40 sn47 ?_ | refine op_pick_f rfl sn40 (hρ.const _) ?_
        exact detK.mk
      -- 49: slot 2 := Op.assign t108
      refine sure_det (js := [(48, 108)]) (ts := []) (gd := none) (place_at HVS.out (k := 49) rfl) (by rw [HCS.out]; kernel_rfl) ?_ ?_
      · intro wx hx ρ hρ hs hf
        have hρc := hρ.const
        have hρf := hρ.func
        obtain ⟨sn48, -⟩ := hs
        rw [place_at HVS.out (k := 48) rfl] at sn48
        replace sn48 : ρ (.tmp 108) = _ := sn48
        clear hf
        clear HCS HVS qs5 qs8 qs9 qs10 qs11 qs12 qs13 qs14 qs15
        refine run_plain ?_
        refine op_assign rfl sn48 ?_
        exact detK.mk
      exact trivial
    case hend =>
      intro xs wx hx hg
      have gk0 : xs 0 = _ := goods_get hg (i := 0) (j := 0) (d := 60) rfl
      have gk1 : xs 1 = _ := goods_get hg (i := 1) (j := 1) (d := 61) rfl
      have gk2 : xs 2 = _ := goods_get hg (i := 2) (j := 2) (d := 62) rfl
      have gk3 : xs 3 = _ := goods_get hg (i := 3) (j := 3) (d := 63) rfl
      have gk4 : xs 4 = _ := goods_get hg (i := 4) (j := 4) (d := 64) rfl
      have gk5 : xs 5 = _ := goods_get hg (i := 5) (j := 5) (d := 65) rfl
      have gk6 : xs 6 = _ := goods_get hg (i := 6) (j := 6) (d := 66) rfl
      have gk7 : xs 7 = _ := goods_get hg (i := 7) (j := 7) (d := 67) rfl
      have gk8 : xs 8 = _ := goods_get hg (i := 8) (j := 8) (d := 68) rfl
      have gk9 : xs 9 = _ := goods_get hg (i := 9) (j := 9) (d := 69) rfl
      have gk10 : xs 10 = _ := goods_get hg (i := 10) (j := 10) (d := 70) rfl
      have gk11 : xs 11 = _ := goods_get hg (i := 11) (j := 11) (d := 71) rfl
      have gk12 : xs 12 = _ := goods_get hg (i := 12) (j := 12) (d := 72) rfl
      have gk13 : xs 13 = _ := goods_get hg (i := 13) (j := 13) (d := 73) rfl
      have gk14 : xs 14 = _ := goods_get hg (i := 14) (j := 14) (d := 74) rfl
      have gk15 : xs 15 = _ := goods_get hg (i := 15) (j := 15) (d := 75) rfl
      have gk16 : xs 16 = _ := goods_get hg (i := 16) (j := 16) (d := 76) rfl
      have gk17 : xs 17 = _ := goods_get hg (i := 17) (j := 17) (d := 77) rfl
      have gk18 : xs 18 = _ := goods_get hg (i := 18) (j := 18) (d := 78) rfl
      have gk19 : xs 19 = _ := goods_get hg (i := 19) (j := 19) (d := 79) rfl
      have gk20 : xs 20 = _ := goods_get hg (i := 20) (j := 20) (d := 80) rfl
      have gk21 : xs 21 = _ := goods_get hg (i := 21) (j := 21) (d := 81) rfl
      have gk22 : xs 22 = _ := goods_get hg (i := 22) (j := 22) (d := 82) rfl
      have gk23 : xs 23 = _ := goods_get hg (i := 23) (j := 23) (d := 83) rfl
      have gk24 : xs 24 = _ := goods_get hg (i := 24) (j := 24) (d := 84) rfl
      have gk25 : xs 25 = _ := goods_get hg (i := 25) (j := 25) (d := 85) rfl
      have gk26 : xs 26 = _ := goods_get hg (i := 26) (j := 26) (d := 86) rfl
      have gk27 : xs 27 = _ := goods_get hg (i := 27) (j := 27) (d := 87) rfl
      have gk28 : xs 28 = _ := goods_get hg (i := 28) (j := 28) (d := 88) rfl
      have gk29 : xs 29 = _ := goods_get hg (i := 29) (j := 29) (d := 89) rfl
      have gk30 : xs 30 = _ := goods_get hg (i := 30) (j := 30) (d := 90) rfl
      have gk31 : xs 31 = _ := goods_get hg (i := 31) (j := 31) (d := 91) rfl
      have gk32 : xs 32 = _ := goods_get hg (i := 32) (j := 32) (d := 92) rfl
      have gk33 : xs 33 = _ := goods_get hg (i := 33) (j := 33) (d := 93) rfl
      have gk34 : xs 34 = _ := goods_get hg (i := 34) (j := 34) (d := 94) rfl
      have gk35 : xs 35 = _ := goods_get hg (i := 35) (j := 35) (d := 95) rfl
      have gk36 : xs 36 = _ := goods_get hg (i := 36) (j := 36) (d := 96) rfl
      have gk37 : xs 37 = _ := goods_get hg (i := 37) (j := 37) (d := 97) rfl
      have gk38 : xs 38 = _ := goods_get hg (i := 38) (j := 38) (d := 98) rfl
      have gk39 : xs 39 = _ := goods_get hg (i := 39) (j := 39) (d := 99) rfl
      have gk40 : xs 40 = _ := goods_get hg (i := 40) (j := 40) (d := 100) rfl
      have gk41 : xs 41 = _ := goods_get hg (i := 41) (j := 41) (d := 101) rfl
      have gk42 : xs 42 = _ := goods_get hg (i := 42) (j := 42) (d := 102) rfl
      have gk43 : xs 43 = _ := goods_get hg (i := 43) (j := 43) (d := 103) rfl
      have gk44 : xs 44 = _ := goods_get hg (i := 44) (j := 44) (d := 104) rfl
      have gk45 : xs 45 = _ := goods_get hg (i := 45) (j := 45) (d := 105) rfl
      have gk46 : xs 46 = _ := goods_get hg (i := 46) (j := 46) (d := 106) rfl
      have gk47 : xs 47 = _ := goods_get hg (i := 47) (j := 47) (d := 107) rfl
      have gk48 : xs 48 = _ := goods_get hg (i := 48) (j := 48) (d := 108) rfl
      have gk49 : xs 49 = _ := goods_get hg (i := 49) (j := 49) (d := 2) rfl
      clear hg
      simp only [putAll, gk0, gk1, gk2, gk3, gk4, gk5, gk6, gk7, gk8, gk9, gk10, gk11, gk12, gk13, gk14, gk15, gk16, gk17, gk18, gk19, gk20, gk21, gk22, gk23, gk24, gk25, gk26, gk27, gk28, gk29, gk30, gk31, gk32, gk33, gk34, gk35, gk36, gk37, gk38, gk39, gk40, gk41, gk42, gk43, gk44, gk45, gk46, gk47, gk48, gk49]
      clear gk0 gk1 gk2 gk3 gk4 gk5 gk6 gk7 gk8 gk9 gk10 gk11 gk12 gk13 gk14 gk15 gk16 gk17 gk18 gk19 gk20 gk21 gk22 gk23 gk24 gk25 gk26 gk27 gk28 gk29 gk30 gk31 gk32 gk33 gk34 gk35 gk36 gk37 gk38 gk39 gk40 gk41 gk42 gk43 gk44 gk45 gk46 gk47 gk48 gk49
      clear xs
      simp only [Act.put, List.setIfInBounds_toArray, List.set_cons_zero, List.set_cons_succ]
      go_wp2
      go_ret
      exact ⟨rfl, hE.trans hx.drawn⟩
set_option maxRecDepth 1000000 in
theorem open_tells {H : Type} {enc : TypeId × Value → H} {w : World} {base : Nat} {b0 : Nat} {v : Value} {d : DataW H} {p : List MemPlace} (hv : Value.okWide Try.prog w .any b0 45 v) (h : DataW.Trod enc Try.prog w base (fun _ => true) true 45 v d p) :
    ∃ (t c mt mc : Int) (A : Option Addr) (n cp : Nat) (a b : Int), v = .agg #[.int .i64 t, .int .i64 c, .int .i64 mt, .int .i64 mc, .slice A n cp, .int .u16 a, .int .u8 b] ∧ (0 ≤ a ∧ a < 65536) ∧ (0 ≤ b ∧ b < 256) := by
  obtain ⟨l, xs, m, rfl, hl, rfl, _, _, hf⟩ := open_struct Try.underlying45 hv h
  rw [show Try.prog.cellsOf 45 = 7 by kernel_rfl] at hl
  match l, hl with
  | [x0, x1, x2, x3, x4, x5, x6], _ =>
  obtain ⟨_, _, t0⟩ := hf 0 _ rfl
  obtain ⟨_, _, t1⟩ := hf 1 _ rfl
  obtain ⟨_, _, t2⟩ := hf 2 _ rfl
  obtain ⟨_, _, t3⟩ := hf 3 _ rfl
  obtain ⟨_, _, t4⟩ := hf 4 _ rfl
  obtain ⟨t, e0, _, w0⟩ := DataW.trod_int Try.underlying3 t0
  obtain ⟨c, e1, _, w1⟩ := DataW.trod_int Try.underlying3 t1
  obtain ⟨a, e3, _, w3⟩ := DataW.trod_int Try.underlying43 t3
  obtain ⟨b, e4, _, w4⟩ := DataW.trod_int Try.underlying5 t4
  obtain ⟨k, hg⟩ := open_inner Try.underlying42 t2
  obtain ⟨_, s0⟩ := hg 0 _ rfl
  obtain ⟨_, s1⟩ := hg 1 _ rfl
  obtain ⟨_, s2⟩ := hg 2 _ rfl
  obtain ⟨mt, e5, _, w5⟩ := DataW.trod_int Try.underlying3 s0
  obtain ⟨mc, e6, _, w6⟩ := DataW.trod_int Try.underlying3 s1
  have e7 : ∃ A n cp, ((List.take (Try.prog.cellsOf 42) (List.drop 2 [x0, x1, x2, x3, x4, x5, x6])).drop 2).take (Try.prog.cellsOf 28) = [.slice A n cp] := by
    rcases DataW.trod_slice Try.underlying28 s2 with ⟨h, _⟩ | ⟨a, len, cap, _, _, _, _, h, _⟩
    · exact ⟨none, 0, 0, h⟩
    · exact ⟨some a, len, cap, h⟩
  obtain ⟨A, n, cp, e7⟩ := e7
  simp [show Try.prog.cellsOf 5 = 1 by kernel_rfl, show Try.prog.cellsOf 43 = 1 by kernel_rfl, show Try.prog.cellsOf 3 = 1 by kernel_rfl, show Try.prog.cellsOf 28 = 1 by kernel_rfl, show Try.prog.cellsOf 42 = 3 by kernel_rfl] at e0 e1 e3 e4 e5 e6 e7
  subst e0 e1 e3 e4 e5 e6 e7
  exact ⟨t, c, mt, mc, A, n, cp, a, b, rfl, wf_u16 w3, wf_u8 w4⟩
set_option maxRecDepth 100000 in
theorem CellTells_lifted (os : Os) (started : os.Started) (H : Type) (enc : TypeId × Value → H) :
    ReturnsInHanded {} Try.checked os 5 .any (Rows.cellTellsSpec.pre6 enc Try.prog Try.f5 Rows.cellTellsRow.domain false) (Rows.cellTellsSpec.post enc Try.prog Try.f5 false true false false) := by
  refine law_row os started H enc Rows.cellTellsSpec rfl (fun ds h => by
    match ds, h with
    | [_], _ => rfl) (by kernel_rfl) Try.func5 rfl
    (by rw [Try.params5]; intro t ht; simp at ht; subst ht; exact ⟨by kernel_rfl, of_decide_eq_true (by kernel_rfl)⟩)
    (ChangeSpec.witness6 (enc := enc) (C := Try.checked) false ⟨#[], #[.agg #[.int .i64 0, .int .i64 0, .int .i64 0, .int .i64 0, .slice none 0 0, .int .u16 0, .int .u8 0]], []⟩ 8 (by kernel_rfl) (by kernel_rfl) (by kernel_rfl) (by kernel_rfl)) ?_
  intro W base args ds ps hval hA hlt
  rw [Try.params5] at hA hval
  obtain ⟨v0, d0, rfl, rfl, h0⟩ := trodAll_one hA
  obtain ⟨t, c, mt, mc, A, n, cp, a, b, rfl, h1, h2⟩ := open_tells (hval 0 _ v0 rfl rfl) h0
  obtain ⟨rn, rfl⟩ := Int.eq_ofNat_of_zero_le h1.1
  obtain ⟨fn, rfl⟩ := Int.eq_ofNat_of_zero_le h2.1
  by_cases hup : (400 < c ∧ c ≤ 65536) ∨ 4000 < n
  · exact ctells_up t c mt mc A n cp rn fn W hup
  · cases hm : mayB t c
    · exact ctells_no t c hm (fun h => hup (.inl h)) mt mc A n cp rn fn W (by omega) (by omega) (by omega)
    · obtain ⟨g1, g2, g3, g4⟩ := mayB_true hm
      obtain ⟨tn, rfl⟩ := Int.eq_ofNat_of_zero_le (show 0 ≤ t by omega)
      obtain ⟨cn, rfl⟩ := Int.eq_ofNat_of_zero_le g3
      exact ctells_yes tn cn (by omega) (by omega) (by omega) mt mc A n cp rn fn W (by omega) (by omega) (by omega)
theorem CellTells_holds : Rows.CellTellsSaid :=
  OpenClaim.holds_of_wide 5 Try.f5 rfl rfl rfl rfl rfl rfl rfl ⟨rfl, rfl, rfl, rfl, rfl⟩ rfl rfl rfl rfl rfl (by kernel_rfl) Try.func5 (by kernel_rfl)
    (of_decide_eq_true (by kernel_rfl)) (by unfold Func.isWrapper; rw [if_neg (of_decide_eq_false (by kernel_rfl))]; exact ⟨rfl, rfl⟩)
    (fun os started H enc _ => CellTells_lifted os started H enc)
#print axioms CellTells_holds
end Go.Proofs.Ythgcpfofdbdkpaa
