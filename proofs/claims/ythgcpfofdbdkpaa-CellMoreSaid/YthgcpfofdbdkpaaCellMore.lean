/- Proved: the law CellMore (with one record more a memory has eight words more, and all places of the others stay; with one thread more each record's words are one place on) returns true at every input and turns none of its arguments. No condition. -/
import Derived.Test.YthgcpfofdbdkpaaShown9
import Derived.Test.YthgcpfofdbdkpaaLift
import Derived.Test.YthgcpfofdbdkpaaAggs
import Derived.Deep.CutRange
namespace Go.Proofs.Ythgcpfofdbdkpaa
open Go.ChangeShapes Go.WideShapes Go.ChangeAt Go.RowKit

set_option maxRecDepth 100000 in
set_option maxHeartbeats 4000000 in
theorem more_walk (tn cn rn fn : Nat) (ht : tn < 256) (hc : cn < 65536) (hr : rn < 65536) (hf : fn < 256) (w : World) :
    Calls Try.prog 8 #[.agg #[.int .u8 tn, .int .u16 cn, .int .u16 rn, .int .u8 fn]] w fun e w' => e = .returned (.bool true) ∧ Ext w w' := by
  have hE : Ext w (w.alloc (.cells #[.int .u8 tn, .int .u16 cn, .int .u16 rn, .int .u8 fn] 61)) := (Below.refl _ w).alloc (Nat.le_refl _) _
  have hN : (1 : Int) + (tn : Int) % 63 = ((1 + tn % 63 : Nat) : Int) := by omega
  have hK : (1 : Int) + (cn : Int) % 300 = ((1 + cn % 300 : Nat) : Int) := by omega
  have hN1 : 1 ≤ 1 + tn % 63 ∧ 1 + tn % 63 ≤ 63 := by omega
  have hK1 : 1 ≤ 1 + cn % 300 ∧ 1 + cn % 300 ≤ 300 := by omega
  have hY : (fn : Int) % 8 = ((fn % 8 : Nat) : Int) := by omega
  have hY1 : fn % 8 < 8 := by omega
  generalize 1 + tn % 63 = N at *
  generalize 1 + cn % 300 = K at *
  generalize fn % 8 = Y at *
  have hX : (1 : Int) + (rn : Int) % (K : Int) = ((1 + rn % K : Nat) : Int) := by rw [← Int.natCast_emod]; omega
  have hX1 : 1 ≤ 1 + rn % K ∧ 1 + rn % K ≤ K := ⟨by omega, by have := Nat.mod_lt rn hK1.1; omega⟩
  generalize 1 + rn % K = X at *
  obtain ⟨n1, n2⟩ := hN1
  obtain ⟨k1, k2⟩ := hK1
  obtain ⟨x1, x2⟩ := hX1
  go_enter Try.func8, Try.ntmps8
  go_wp2_with (first
    | (go_at_call 21; refine (shown9_any _).mono ?_; rintro e w1 ⟨rfl, hx1⟩; have c0 := hx1.cell (p := ⟨w.heap.size, 0, none⟩) (v := .int .u8 tn) (by simp [go_sem]); have c1 := hx1.cell (p := ⟨w.heap.size, 1, none⟩) (v := .int .u16 cn) (by simp [go_sem]); have c2 := hx1.cell (p := ⟨w.heap.size, 2, none⟩) (v := .int .u16 rn) (by simp [go_sem]); have c3 := hx1.cell (p := ⟨w.heap.size, 3, none⟩) (v := .int .u8 fn) (by simp [go_sem]); replace hE := hE.trans hx1; clear hx1))
  try rw [hY]
  try rw [hX]
  have HN := Lib.hid hN
  have HK := Lib.hid hK
  have HX := Lib.hid hX
  have HY := Lib.hid hY
  clear hN hK hX hY c0 c1 c2 c3
  refine (new_yes N K n1 (by omega) (by omega) _).mono ?_
  rintro e w2 ⟨ga, rfl, _, hrow, hx2⟩
  have ma := MemBox.new (t := N) (c := K) hrow
  have hw2 : Ext w2 (w2.alloc (.cells #[.int .i64 N, .int .i64 K, .slice (some ⟨ga, 0, none⟩) (memL N K) (memL N K)] 42)) := (Below.refl _ w2).alloc (Nat.le_refl _) _
  replace hE := (hE.trans hx2).trans hw2
  have hs2 : w2.heap.size < (w2.alloc (.cells #[.int .i64 N, .int .i64 K, .slice (some ⟨ga, 0, none⟩) (memL N K) (memL N K)] 42)).heap.size := by simp
  clear hx2 hw2 hrow
  go_upto_region 11 with (fail)
  generalize w2.alloc (.cells #[.int .i64 N, .int .i64 K, .slice (some ⟨ga, 0, none⟩) (memL N K) (memL N K)] 42) = W2 at *
  generalize w2.heap.size = ba at *
  have hnewb : ∀ W, Calls Try.prog 22 #[.int .i64 N, .int .i64 ((K : Int) + 1)] W fun e w' => ∃ g, e = .returned (.tuple #[.agg #[.int .i64 N, .int .i64 ((K : Int) + 1), .slice (some ⟨g, 0, none⟩) (memL N (K + 1)) (memL N (K + 1))], .int .i64 0]) ∧ W.heap.size ≤ g ∧ WordsAt w' g (memL N (K + 1)) (newF N (K + 1) (K + 1)) ∧ Ext W w' := fun W => by
    have := new_yes N (K + 1) n1 (by omega) (by omega) W
    simpa using this
  go_wp2_with fail
  refine (hnewb _).mono ?_
  rintro e w3 ⟨gb, rfl, _, hrow, hx3⟩
  have mb := MemBox.new (t := N) (c := (K : Int) + 1) hrow
  have hw3 : Ext w3 (w3.alloc (.cells #[.int .i64 N, .int .i64 ((K : Int) + 1), .slice (some ⟨gb, 0, none⟩) (memL N (K + 1)) (memL N (K + 1))] 42)) := (Below.refl _ w3).alloc (Nat.le_refl _) _
  replace hx3 := hx3.trans hw3
  replace hE := hE.trans hx3
  replace ma := ma.ext hx3
  clear hx3 hw3 hrow hnewb
  go_upto_region 12 with (fail)
  generalize w3.alloc (.cells #[.int .i64 N, .int .i64 ((K : Int) + 1), .slice (some ⟨gb, 0, none⟩) (memL N (K + 1)) (memL N (K + 1))] 42) = W3 at *
  generalize w3.heap.size = bb at *
  have hnewd : ∀ W, Calls Try.prog 22 #[.int .i64 ((N : Int) + 1), .int .i64 K] W fun e w' => ∃ g, e = .returned (.tuple #[.agg #[.int .i64 ((N : Int) + 1), .int .i64 K, .slice (some ⟨g, 0, none⟩) (memL (N + 1) K) (memL (N + 1) K)], .int .i64 0]) ∧ W.heap.size ≤ g ∧ WordsAt w' g (memL (N + 1) K) (newF (N + 1) K K) ∧ Ext W w' := fun W => by
    have := new_yes (N + 1) K (by omega) (by omega) (by omega) W
    simpa using this
  go_wp2_with fail
  refine (hnewd _).mono ?_
  rintro e w4 ⟨gd, rfl, _, hrow, hx4⟩
  have md := MemBox.new (t := (N : Int) + 1) (c := K) hrow
  have hw4 : Ext w4 (w4.alloc (.cells #[.int .i64 ((N : Int) + 1), .int .i64 K, .slice (some ⟨gd, 0, none⟩) (memL (N + 1) K) (memL (N + 1) K)] 42)) := (Below.refl _ w4).alloc (Nat.le_refl _) _
  replace hx4 := hx4.trans hw4
  replace hE := hE.trans hx4
  replace ma := ma.ext hx4
  replace mb := mb.ext hx4
  clear hx4 hw4 hrow hnewd hs2
  go_upto_region 13 with (fail)
  generalize w4.alloc (.cells #[.int .i64 ((N : Int) + 1), .int .i64 K, .slice (some ⟨gd, 0, none⟩) (memL (N + 1) K) (memL (N + 1) K)] 42) = W4 at *
  generalize w4.heap.size = bd at *
  have eb : memL N (K + 1) = memL N K + 8 := by unfold memL; omega
  have ed : memL (N + 1) K = memL N K + 1 := by unfold memL; omega
  rw [eb] at mb
  rw [ed] at md
  rw [eb, ed]
  have eq : fieldN (N + 1) X Y = fieldN N X Y + 1 := by unfold fieldN; omega
  have fp : ∀ W, Calls Try.prog 29 #[.int .i64 N, .int .i64 X, .int .i64 Y] W fun e w' => e = .returned (.int .i64 (fieldN N X Y : Nat)) ∧ W = w' := fun W => field_nat N X Y x1 (by omega) (by omega) (by omega) W
  have fq : ∀ W, Calls Try.prog 29 #[.int .i64 ((N : Int) + 1), .int .i64 X, .int .i64 Y] W fun e w' => e = .returned (.int .i64 ((fieldN N X Y : Nat) + 1 : Int)) ∧ W = w' := fun W => by
    have := field_nat (N + 1) X Y x1 (by omega) (by omega) (by omega) W
    rw [eq] at this
    simpa using this
  have fz : ∀ W, Calls Try.prog 29 #[.int .i64 N, .int .i64 K, .int .i64 7] W fun e w' => e = .returned (.int .i64 (fieldN N K 7 : Nat)) ∧ W = w' := fun W => field_nat N K 7 k1 (by omega) (by omega) (by omega) W
  have lp : fieldN N X Y < memL N K := fieldN_lt x1 x2 hY1
  have lz : fieldN N K 7 < memL N K := fieldN_lt k1 (Nat.le_refl _) (by omega)
  have vap : newF N K K (fieldN N X Y) = if Y = 7 ∧ X < K then ((X + 1 : Nat) : Int) else 0 := newF_field x1 hY1
  have vdq : newF (N + 1) K K (fieldN N X Y + 1) = if Y = 7 ∧ X < K then ((X + 1 : Nat) : Int) else 0 := by rw [← eq]; exact newF_field x1 hY1
  have vbp : newF N (K + 1) (K + 1) (fieldN N X Y) = if Y = 7 ∧ X < K + 1 then ((X + 1 : Nat) : Int) else 0 := newF_field x1 hY1
  have vaz : newF N K K (fieldN N K 7) = 0 := by rw [newF_field k1 (by omega), if_neg (by omega)]
  have vbz : newF N (K + 1) (K + 1) (fieldN N K 7) = ((K + 1 : Nat) : Int) := by rw [newF_field k1 (by omega), if_pos (by omega)]
  have hLm : memL N K ≤ 100000 := by unfold memL; omega
  generalize hv : (if Y = 7 ∧ X < K then ((X + 1 : Nat) : Int) else 0) = v at *
  have hbp : (Y = 7 ∧ X = K) ∨ (¬ (Y = 7 ∧ X = K) ∧ newF N (K + 1) (K + 1) (fieldN N X Y) = v) := by
    by_cases h : Y = 7 ∧ X = K
    · exact .inl h
    · refine .inr ⟨h, ?_⟩
      rw [vbp, ← hv]
      by_cases h2 : Y = 7 ∧ X < K
      · rw [if_pos h2, if_pos (by omega)]
      · rw [if_neg h2, if_neg (by omega)]
  have ka := ma.2.2.2 _ lp
  have kd := md.2.2.2 (fieldN N X Y + 1) (by omega)
  have kb := mb.2.2.2 (fieldN N X Y) (by omega)
  have kz := ma.2.2.2 _ lz
  have ky := mb.2.2.2 (fieldN N K 7) (by omega)
  rw [vap] at ka
  rw [vdq] at kd
  rw [vaz] at kz
  rw [vbz] at ky
  have ba2 := ma.2.2.1
  have bb2 := mb.2.2.1
  have bd2 := md.2.2.1
  clear vap vdq vbp vaz vbz ma mb md hv eb ed eq
  generalize newF N (K + 1) (K + 1) (fieldN N X Y) = vb at *
  generalize fieldN N X Y = p at *
  generalize fieldN N K 7 = z at *
  generalize memL N K = L at *
  have hall : ∀ wx, Ext W4.drew wx → wx.cell? ⟨ba, 2, none⟩ = some (.slice (some ⟨ga, 0, none⟩) L L) ∧ wx.cell? ⟨bb, 2, none⟩ = some (.slice (some ⟨gb, 0, none⟩) (L + 8) (L + 8)) ∧ wx.cell? ⟨bd, 2, none⟩ = some (.slice (some ⟨gd, 0, none⟩) (L + 1) (L + 1)) ∧
      wx.cell? ⟨ga, p, none⟩ = some (.int .u64 v) ∧ wx.cell? ⟨gd, p + 1, none⟩ = some (.int .u64 v) ∧ wx.cell? ⟨gb, p, none⟩ = some (.int .u64 vb) ∧ wx.cell? ⟨ga, z, none⟩ = some (.int .u64 0) ∧ wx.cell? ⟨gb, z, none⟩ = some (.int .u64 ((K : Int) + 1)) := fun wx hx =>
    ⟨hx.drawn.cell ba2, hx.drawn.cell bb2, hx.drawn.cell bd2, hx.drawn.cell ka, hx.drawn.cell kd, hx.drawn.cell kb, hx.drawn.cell kz, by have := hx.drawn.cell ky; simpa using this⟩
  clear ka kd kb kz ky
  go_upto_region 15 with (fail)
  clear bb2 bd2
  go_wp2_with (first
    | (go_at_call 29; (first | (with_reducible refine (fp _).mono ?_) | (with_reducible refine (fq _).mono ?_) | (with_reducible refine (fz _).mono ?_)); rintro e w' ⟨rfl, rfl⟩))
  have hwK : IntKind.i64.wrap ((K : Int) + 1) = (K : Int) + 1 := by rw [IntKind.wrap_i64]; omega
  have huK : IntKind.u64.wrap ((K : Int) + 1) = (K : Int) + 1 := by rw [IntKind.wrap_u64]; omega
  clear ba2 fp fq fz
  have hcase : (((Y : Int) == 7) = true ∧ ((X : Int) == (K : Int)) = true ∧ True) ∨ (((Y : Int) == 7) = true ∧ ((X : Int) == (K : Int)) = false ∧ vb = v) ∨ (((Y : Int) == 7) = false ∧ True ∧ vb = v) := by
    rcases hbp with ⟨h1, h2⟩ | ⟨h1, h2⟩
    · exact .inl ⟨by simp; omega, by simp; omega, trivial⟩
    · by_cases hy : Y = 7
      · exact .inr (.inl ⟨by simp; omega, by simp; omega, h2⟩)
      · exact .inr (.inr ⟨by simp; omega, trivial, h2⟩)
  clear hbp
  have hb1 : (z : Int) < (L : Int) + 8 := by omega
  have hb2 : (p : Int) < (L : Int) + 8 := by omega
  rcases hcase with ⟨hy, hxk, -⟩ | ⟨hy, hxk, rfl⟩ | ⟨hy, -, rfl⟩
  all_goals
    refine' wp_region_sure_all ⟨((some 134, [], none) :: (some 135, [0], none) :: (some 136, [1], some (1, true)) :: (some 137, [2, 1], some (1, true)) :: (some 138, [1], some (1, true)) :: (some 139, [3, 4, 1], some (1, true)) :: (some 140, [5, 1], some (1, true)) :: (some 141, [1], some (1, true)) :: (some 142, [7, 1], some (1, true)) :: (some 143, [1], some (1, true)) :: (some 144, [8, 9, 1], some (1, true)) :: (some 145, [10, 1], some (1, true)) :: (some 146, [6, 11, 1], some (1, true)) :: (some 147, [1, 12], none) :: (some 148, [13, 1], none) :: (some 149, [14], some (14, true)) :: (some 150, [15, 14], some (14, true)) :: (some 151, [16, 14, 14], some (14, true)) :: (some 152, [17], some (17, true)) :: (some 153, [17], some (17, true)) :: (some 154, [18, 19, 17], some (17, true)) :: (some 155, [17, 20, 14], some (14, true)) :: (some 156, [21, 17, 14], some (14, true)) :: (some 157, [22], some (22, false)) :: (some 158, [23, 22], some (22, false)) :: (some 159, [22], some (22, false)) :: (some 160, [24, 25, 22], some (22, false)) :: (some 161, [26, 22], some (22, false)) :: (some 162, [22], some (22, false)) :: (some 163, [28, 22], some (22, false)) :: (some 164, [22], some (22, false)) :: (some 165, [29, 30, 22], some (22, false)) :: (some 166, [31, 22], some (22, false)) :: (some 167, [27, 32, 22], some (22, false)) :: (some 168, [22, 33, 14], some (14, true)) :: (some 169, [14, 34], none) :: (some 170, [35, 22], none) :: (some 171, [36], some (36, true)) :: (some 172, [37, 36], some (36, true)) :: (some 173, [36], some (36, true)) :: (some 174, [38, 39, 36], some (36, true)) :: (some 175, [40, 36], some (36, true)) :: (some 176, [41, 36], some (36, true)) :: (some 177, [36, 42], none) :: (some 178, [43, 36], none) :: (some 179, [44], some (44, true)) :: (some 180, [45, 44], some (44, true)) :: (some 181, [44], some (44, true)) :: (some 182, [46, 47, 44], some (44, true)) :: (some 183, [48, 44], some (44, true)) :: (some 184, [44], some (44, true)) :: (some 185, [50, 44], some (44, true)) :: (some 186, [51, 44], some (44, true)) :: (some 187, [49, 52, 44], some (44, true)) :: (some 188, [44, 53], none) :: (some 2, [54, 44, 0, 1, 2, 3, 4, 5, 6, 7, 8, 9, 10, 11, 12, 13, 14, 15, 16, 17, 18, 19, 20, 21, 22, 23, 24, 25, 26, 27, 28, 29, 30, 31, 32, 33, 34, 35, 36, 37, 38, 39, 40, 41, 42, 43, 44, 45, 46, 47, 48, 49, 50, 51, 52, 53, 54], none) :: []), (0 :: 1 :: 3 :: 7 :: 3 :: 31 :: 63 :: 3 :: 131 :: 3 :: 899 :: 1923 :: 4095 :: 8191 :: 16383 :: 32767 :: 65535 :: 131071 :: 262143 :: 262143 :: 1048575 :: 2097151 :: 4194303 :: 8388607 :: 16777215 :: 8388607 :: 67108863 :: 134217727 :: 8388607 :: 276824063 :: 8388607 :: 1887436799 :: 4034920447 :: 8589934591 :: 17179869183 :: 34359738367 :: 68719476735 :: 137438953471 :: 274877906943 :: 137438953471 :: 1099511627775 :: 2199023255551 :: 4398046511103 :: 8796093022207 :: 17592186044415 :: 35184372088831 :: 70368744177663 :: 35184372088831 :: 281474976710655 :: 562949953421311 :: 35184372088831 :: 1161084278931455 :: 3412884092616703 :: 9007199254740991 :: 18014398509481983 :: 36028797018963967 :: []), (true :: true :: true :: true :: true :: true :: true :: true :: true :: true :: true :: true :: true :: true :: true :: true :: true :: true :: true :: true :: true :: true :: true :: true :: true :: true :: true :: true :: true :: true :: true :: true :: true :: true :: true :: true :: true :: true :: true :: true :: true :: true :: true :: true :: true :: true :: true :: true :: true :: true :: true :: true :: true :: true :: true :: true :: []), [], 0⟩ 56 189 ((0, 134) :: (1, 135) :: (2, 136) :: (3, 137) :: (4, 138) :: (5, 139) :: (6, 140) :: (7, 141) :: (8, 142) :: (9, 143) :: (10, 144) :: (11, 145) :: (12, 146) :: (13, 147) :: (14, 148) :: (15, 149) :: (16, 150) :: (17, 151) :: (18, 152) :: (19, 153) :: (20, 154) :: (21, 155) :: (22, 156) :: (23, 157) :: (24, 158) :: (25, 159) :: (26, 160) :: (27, 161) :: (28, 162) :: (29, 163) :: (30, 164) :: (31, 165) :: (32, 166) :: (33, 167) :: (34, 168) :: (35, 169) :: (36, 170) :: (37, 171) :: (38, 172) :: (39, 173) :: (40, 174) :: (41, 175) :: (42, 176) :: (43, 177) :: (44, 178) :: (45, 179) :: (46, 180) :: (47, 181) :: (48, 182) :: (49, 183) :: (50, 184) :: (51, 185) :: (52, 186) :: (53, 187) :: (54, 188) :: (55, 2) :: []) ((0, 134) :: (1, 135) :: (2, 136) :: (3, 137) :: (4, 138) :: (5, 139) :: (6, 140) :: (7, 141) :: (8, 142) :: (9, 143) :: (10, 144) :: (11, 145) :: (12, 146) :: (13, 147) :: (14, 148) :: (15, 149) :: (16, 150) :: (17, 151) :: (18, 152) :: (19, 153) :: (20, 154) :: (21, 155) :: (22, 156) :: (23, 157) :: (24, 158) :: (25, 159) :: (26, 160) :: (27, 161) :: (28, 162) :: (29, 163) :: (30, 164) :: (31, 165) :: (32, 166) :: (33, 167) :: (34, 168) :: (35, 169) :: (36, 170) :: (37, 171) :: (38, 172) :: (39, 173) :: (40, 174) :: (41, 175) :: (42, 176) :: (43, 177) :: (44, 178) :: (45, 179) :: (46, 180) :: (47, 181) :: (48, 182) :: (49, 183) :: (50, 184) :: (51, 185) :: (52, 186) :: (53, 187) :: (54, 188) :: (55, 2) :: []) (.det _ :: .det _ :: .det _ :: .det _ :: .det _ :: .det _ :: .det _ :: .det _ :: .det _ :: .det _ :: .det _ :: .det _ :: .det _ :: .det _ :: .det _ :: .det _ :: .det _ :: .det _ :: .det _ :: .det _ :: .det _ :: .det _ :: .det _ :: .det _ :: .det _ :: .det _ :: .det _ :: .det _ :: .det _ :: .det _ :: .det _ :: .det _ :: .det _ :: .det _ :: .det _ :: .det _ :: .det _ :: .det _ :: .det _ :: .det _ :: .det _ :: .det _ :: .det _ :: .det _ :: .det _ :: .det _ :: .det _ :: .det _ :: .det _ :: .det _ :: .det _ :: .det _ :: .det _ :: .det _ :: .det _ :: .det _ :: []) (by kernel_rfl) (by kernel_rfl) (by kernel_rfl) rfl (by kernel_rfl) (by kernel_rfl) rfl (by kernel_rfl) ?hone ?hend
    case hone =>
      intro CS frS VS hCS ha hV
      have qs7 := slot_val (t := 7) ha rfl
      simp only [List.getElem_toArray, List.getElem_cons_succ, List.getElem_cons_zero] at qs7
      have qs9 := slot_val (t := 9) ha rfl
      simp only [List.getElem_toArray, List.getElem_cons_succ, List.getElem_cons_zero] at qs9
      have qs10 := slot_val (t := 10) ha rfl
      simp only [List.getElem_toArray, List.getElem_cons_succ, List.getElem_cons_zero] at qs10
      have qs11 := slot_val (t := 11) ha rfl
      simp only [List.getElem_toArray, List.getElem_cons_succ, List.getElem_cons_zero] at qs11
      have qs12 := slot_val (t := 12) ha rfl
      simp only [List.getElem_toArray, List.getElem_cons_succ, List.getElem_cons_zero] at qs12
      have qs14 := slot_val (t := 14) ha rfl
      simp only [List.getElem_toArray, List.getElem_cons_succ, List.getElem_cons_zero] at qs14
      have qs16 := slot_val (t := 16) ha rfl
      simp only [List.getElem_toArray, List.getElem_cons_succ, List.getElem_cons_zero] at qs16
      have qs18 := slot_val (t := 18) ha rfl
      simp only [List.getElem_toArray, List.getElem_cons_succ, List.getElem_cons_zero] at qs18
      have qs19 := slot_val (t := 19) ha rfl
      simp only [List.getElem_toArray, List.getElem_cons_succ, List.getElem_cons_zero] at qs19
      have qs20 := slot_val (t := 20) ha rfl
      simp only [List.getElem_toArray, List.getElem_cons_succ, List.getElem_cons_zero] at qs20
      have HCS := Lib.hid hCS
      have HVS := Lib.hid hV
      clear ha hCS hV
      -- 0: slot 134 := Op.move t7
      refine sure_det (js := []) (ts := [7]) (gd := none) (place_at HVS.out (k := 0) rfl) (by rw [HCS.out]; kernel_rfl) ?_ ?_
      · intro wx hx ρ hρ hs hf
        have hρc := hρ.const
        have hρf := hρ.func
        obtain ⟨fx7, -⟩ := hf
        rw [qs7] at fx7
        clear hs
        clear HCS HVS qs7 qs9 qs10 qs11 qs12 qs14 qs16 qs18 qs19 qs20
        refine run_plain ?_
        refine op_move rfl fx7 ?_
        exact detK.mk
      -- 1: slot 135 := Op.move t134
      refine sure_det (js := [(0, 134)]) (ts := []) (gd := none) (place_at HVS.out (k := 1) rfl) (by rw [HCS.out]; kernel_rfl) ?_ ?_
      · intro wx hx ρ hρ hs hf
        have hρc := hρ.const
        have hρf := hρ.func
        obtain ⟨sn0, -⟩ := hs
        rw [place_at HVS.out (k := 0) rfl] at sn0
        replace sn0 : ρ (.tmp 134) = _ := sn0
        clear hf
        clear HCS HVS qs7 qs9 qs10 qs11 qs12 qs14 qs16 qs18 qs19 qs20
        refine run_plain ?_
        refine op_move rfl sn0 ?_
        exact detK.mk
      -- 2: slot 136 := Op.fieldAddr 42 t16 2
      refine sure_det (js := [(1, 135)]) (ts := [16]) (gd := (some (135, true))) (place_at HVS.out (k := 2) rfl) (by rw [HCS.out]; kernel_rfl) ?_ ?_
      · intro wx hx ρ hρ hs hf
        have hρc := hρ.const
        have hρf := hρ.func
        obtain ⟨sn1, -⟩ := hs
        obtain ⟨fx16, -⟩ := hf
        rw [qs16] at fx16
        rw [place_at HVS.out (k := 1) rfl] at sn1
        replace sn1 : ρ (.tmp 135) = _ := sn1
        clear HCS HVS qs7 qs9 qs10 qs11 qs12 qs14 qs16 qs18 qs19 qs20
        first
          | (refine run_passed sn1 ?_
             exact detK.mk)
          | (refine run_guarded sn1 ?_
             unfold runs
             go_simp
             exact detK.mk)
      -- 3: slot 137 := Op.load 28 t136
      refine sure_det (js := [(2, 136), (1, 135)]) (ts := []) (gd := (some (135, true))) (place_at HVS.out (k := 3) rfl) (by rw [HCS.out]; kernel_rfl) ?_ ?_
      · intro wx hx ρ hρ hs hf
        have hρc := hρ.const
        have hρf := hρ.func
        obtain ⟨sn2, sn1, -⟩ := hs
        rw [place_at HVS.out (k := 2) rfl] at sn2
        replace sn2 : ρ (.tmp 136) = _ := sn2
        rw [place_at HVS.out (k := 1) rfl] at sn1
        replace sn1 : ρ (.tmp 135) = _ := sn1
        clear hf
        clear HCS HVS qs7 qs9 qs10 qs11 qs12 qs14 qs16 qs18 qs19 qs20
        first
          | (refine run_passed sn1 ?_
             exact detK.mk)
          | (refine run_guarded sn1 ?_
             obtain ⟨p2, p3, p4, p5, p6, p7, p8, p9⟩ := hall wx hx
             unfold runs
             go_simp
             exact detK.mk)
      -- 4: slot 138 := Op.move t19
      refine sure_det (js := [(1, 135)]) (ts := [19]) (gd := (some (135, true))) (place_at HVS.out (k := 4) rfl) (by rw [HCS.out]; kernel_rfl) ?_ ?_
      · intro wx hx ρ hρ hs hf
        have hρc := hρ.const
        have hρf := hρ.func
        obtain ⟨sn1, -⟩ := hs
        obtain ⟨fx19, -⟩ := hf
        rw [qs19] at fx19
        rw [place_at HVS.out (k := 1) rfl] at sn1
        replace sn1 : ρ (.tmp 135) = _ := sn1
        clear HCS HVS qs7 qs9 qs10 qs11 qs12 qs14 qs16 qs18 qs19 qs20
        first
          | (refine run_passed sn1 ?_
             exact detK.mk)
          | (refine run_guarded sn1 ?_
             refine op_move rfl fx19 ?_
             exact detK.mk)
      -- 5: slot 139 := Op.indexAddr 28 t137 t138
      refine sure_det (js := [(3, 137), (4, 138), (1, 135)]) (ts := []) (gd := (some (135, true))) (place_at HVS.out (k := 5) rfl) (by rw [HCS.out]; kernel_rfl) ?_ ?_
      · intro wx hx ρ hρ hs hf
        have hρc := hρ.const
        have hρf := hρ.func
        obtain ⟨sn3, sn4, sn1, -⟩ := hs
        rw [place_at HVS.out (k := 3) rfl] at sn3
        replace sn3 : ρ (.tmp 137) = _ := sn3
        rw [place_at HVS.out (k := 4) rfl] at sn4
        replace sn4 : ρ (.tmp 138) = _ := sn4
        rw [place_at HVS.out (k := 1) rfl] at sn1
        replace sn1 : ρ (.tmp 135) = _ := sn1
        clear hf
        clear HCS HVS qs7 qs9 qs10 qs11 qs12 qs14 qs16 qs18 qs19 qs20
        first
          | (refine run_passed sn1 ?_
             exact detK.mk)
          | (refine run_guarded sn1 ?_
             unfold runs
             go_simp
             exact detK.mk)
      -- 6: slot 140 := Op.load 26 t139
      refine sure_det (js := [(5, 139), (1, 135)]) (ts := []) (gd := (some (135, true))) (place_at HVS.out (k := 6) rfl) (by rw [HCS.out]; kernel_rfl) ?_ ?_
      · intro wx hx ρ hρ hs hf
        have hρc := hρ.const
        have hρf := hρ.func
        obtain ⟨sn5, sn1, -⟩ := hs
        rw [place_at HVS.out (k := 5) rfl] at sn5
        replace sn5 : ρ (.tmp 139) = _ := sn5
        rw [place_at HVS.out (k := 1) rfl] at sn1
        replace sn1 : ρ (.tmp 135) = _ := sn1
        clear hf
        clear HCS HVS qs7 qs9 qs10 qs11 qs12 qs14 qs16 qs18 qs19 qs20
        first
          | (refine run_passed sn1 ?_
             exact detK.mk)
          | (refine run_guarded sn1 ?_
             obtain ⟨p2, p3, p4, p5, p6, p7, p8, p9⟩ := hall wx hx
             unfold runs
             go_simp
             exact detK.mk)
      -- 7: slot 141 := Op.fieldAddr 42 t12 2
      refine sure_det (js := [(1, 135)]) (ts := [12]) (gd := (some (135, true))) (place_at HVS.out (k := 7) rfl) (by rw [HCS.out]; kernel_rfl) ?_ ?_
      · intro wx hx ρ hρ hs hf
        have hρc := hρ.const
        have hρf := hρ.func
        obtain ⟨sn1, -⟩ := hs
        obtain ⟨fx12, -⟩ := hf
        rw [qs12] at fx12
        rw [place_at HVS.out (k := 1) rfl] at sn1
        replace sn1 : ρ (.tmp 135) = _ := sn1
        clear HCS HVS qs7 qs9 qs10 qs11 qs12 qs14 qs16 qs18 qs19 qs20
        first
          | (refine run_passed sn1 ?_
             exact detK.mk)
          | (refine run_guarded sn1 ?_
             unfold runs
             go_simp
             exact detK.mk)
      -- 8: slot 142 := Op.load 28 t141
      refine sure_det (js := [(7, 141), (1, 135)]) (ts := []) (gd := (some (135, true))) (place_at HVS.out (k := 8) rfl) (by rw [HCS.out]; kernel_rfl) ?_ ?_
      · intro wx hx ρ hρ hs hf
        have hρc := hρ.const
        have hρf := hρ.func
        obtain ⟨sn7, sn1, -⟩ := hs
        rw [place_at HVS.out (k := 7) rfl] at sn7
        replace sn7 : ρ (.tmp 141) = _ := sn7
        rw [place_at HVS.out (k := 1) rfl] at sn1
        replace sn1 : ρ (.tmp 135) = _ := sn1
        clear hf
        clear HCS HVS qs7 qs9 qs10 qs11 qs12 qs14 qs16 qs18 qs19 qs20
        first
          | (refine run_passed sn1 ?_
             exact detK.mk)
          | (refine run_guarded sn1 ?_
             obtain ⟨p2, p3, p4, p5, p6, p7, p8, p9⟩ := hall wx hx
             unfold runs
             go_simp
             exact detK.mk)
      -- 9: slot 143 := Op.move t18
      refine sure_det (js := [(1, 135)]) (ts := [18]) (gd := (some (135, true))) (place_at HVS.out (k := 9) rfl) (by rw [HCS.out]; kernel_rfl) ?_ ?_
      · intro wx hx ρ hρ hs hf
        have hρc := hρ.const
        have hρf := hρ.func
        obtain ⟨sn1, -⟩ := hs
        obtain ⟨fx18, -⟩ := hf
        rw [qs18] at fx18
        rw [place_at HVS.out (k := 1) rfl] at sn1
        replace sn1 : ρ (.tmp 135) = _ := sn1
        clear HCS HVS qs7 qs9 qs10 qs11 qs12 qs14 qs16 qs18 qs19 qs20
        first
          | (refine run_passed sn1 ?_
             exact detK.mk)
          | (refine run_guarded sn1 ?_
             refine op_move rfl fx18 ?_
             exact detK.mk)
      -- 10: slot 144 := Op.indexAddr 28 t142 t143
      refine sure_det (js := [(8, 142), (9, 143), (1, 135)]) (ts := []) (gd := (some (135, true))) (place_at HVS.out (k := 10) rfl) (by rw [HCS.out]; kernel_rfl) ?_ ?_
      · intro wx hx ρ hρ hs hf
        have hρc := hρ.const
        have hρf := hρ.func
        obtain ⟨sn8, sn9, sn1, -⟩ := hs
        rw [place_at HVS.out (k := 8) rfl] at sn8
        replace sn8 : ρ (.tmp 142) = _ := sn8
        rw [place_at HVS.out (k := 9) rfl] at sn9
        replace sn9 : ρ (.tmp 143) = _ := sn9
        rw [place_at HVS.out (k := 1) rfl] at sn1
        replace sn1 : ρ (.tmp 135) = _ := sn1
        clear hf
        clear HCS HVS qs7 qs9 qs10 qs11 qs12 qs14 qs16 qs18 qs19 qs20
        first
          | (refine run_passed sn1 ?_
             exact detK.mk)
          | (refine run_guarded sn1 ?_
             unfold runs
             go_simp
             exact detK.mk)
      -- 11: slot 145 := Op.load 26 t144
      refine sure_det (js := [(10, 144), (1, 135)]) (ts := []) (gd := (some (135, true))) (place_at HVS.out (k := 11) rfl) (by rw [HCS.out]; kernel_rfl) ?_ ?_
      · intro wx hx ρ hρ hs hf
        have hρc := hρ.const
        have hρf := hρ.func
        obtain ⟨sn10, sn1, -⟩ := hs
        rw [place_at HVS.out (k := 10) rfl] at sn10
        replace sn10 : ρ (.tmp 144) = _ := sn10
        rw [place_at HVS.out (k := 1) rfl] at sn1
        replace sn1 : ρ (.tmp 135) = _ := sn1
        clear hf
        clear HCS HVS qs7 qs9 qs10 qs11 qs12 qs14 qs16 qs18 qs19 qs20
        first
          | (refine run_passed sn1 ?_
             exact detK.mk)
          | (refine run_guarded sn1 ?_
             obtain ⟨p2, p3, p4, p5, p6, p7, p8, p9⟩ := hall wx hx
             unfold runs
             go_simp
             exact detK.mk)
      -- 12: slot 146 := Op.binOp BinOp.eql 26 t140 t145 26
      refine sure_det (js := [(6, 140), (11, 145), (1, 135)]) (ts := []) (gd := (some (135, true))) (place_at HVS.out (k := 12) rfl) (by rw [HCS.out]; kernel_rfl) ?_ ?_
      · intro wx hx ρ hρ hs hf
        have hρc := hρ.const
        have hρf := hρ.func
        obtain ⟨sn6, sn11, sn1, -⟩ := hs
        rw [place_at HVS.out (k := 6) rfl] at sn6
        replace sn6 : ρ (.tmp 140) = _ := sn6
        rw [place_at HVS.out (k := 11) rfl] at sn11
        replace sn11 : ρ (.tmp 145) = _ := sn11
        rw [place_at HVS.out (k := 1) rfl] at sn1
        replace sn1 : ρ (.tmp 135) = _ := sn1
        clear hf
        clear HCS HVS qs7 qs9 qs10 qs11 qs12 qs14 qs16 qs18 qs19 qs20
        first
          | (refine run_passed sn1 ?_
             exact detK.mk)
          | (refine run_guarded sn1 ?_
             unfold runs
             go_simp
             exact detK.mk)
      -- 13: slot 147 := Op.pick t135 t146 ((Value.bool false))
      refine sure_det (js := [(1, 135), (12, 146)]) (ts := []) (gd := none) (place_at HVS.out (k := 13) rfl) (by rw [HCS.out]; kernel_rfl) ?_ ?_
      · intro wx hx ρ hρ hs hf
        have hρc := hρ.const
        have hρf := hρ.func
        obtain ⟨sn1, sn12, -⟩ := hs
        rw [place_at HVS.out (k := 1) rfl] at sn1
        replace sn1 : ρ (.tmp 135) = _ := sn1
        rw [place_at HVS.out (k := 12) rfl] at sn12
        replace sn12 : ρ (.tmp 146) = _ := sn12
        clear hf
        clear HCS HVS qs7 qs9 qs10 qs11 qs12 qs14 qs16 qs18 qs19 qs20
        refine run_plain ?_
        first | refine op_pick_t rfl sn1 sn12 ?_ | refine op_pick_f rfl sn1 (hρ.const _) ?_
        exact detK.mk
      -- 14: slot 148 := Op.move t147
      refine sure_det (js := [(13, 147)]) (ts := []) (gd := none) (place_at HVS.out (k := 14) rfl) (by rw [HCS.out]; kernel_rfl) ?_ ?_
      · intro wx hx ρ hρ hs hf
        have hρc := hρ.const
        have hρf := hρ.func
        obtain ⟨sn13, -⟩ := hs
        rw [place_at HVS.out (k := 13) rfl] at sn13
        replace sn13 : ρ (.tmp 147) = _ := sn13
        clear hf
        clear HCS HVS qs7 qs9 qs10 qs11 qs12 qs14 qs16 qs18 qs19 qs20
        refine run_plain ?_
        refine op_move rfl sn13 ?_
        exact detK.mk
      -- 15: slot 149 := Op.move t11
      refine sure_det (js := [(14, 148)]) (ts := [11]) (gd := (some (148, true))) (place_at HVS.out (k := 15) rfl) (by rw [HCS.out]; kernel_rfl) ?_ ?_
      · intro wx hx ρ hρ hs hf
        have hρc := hρ.const
        have hρf := hρ.func
        obtain ⟨sn14, -⟩ := hs
        obtain ⟨fx11, -⟩ := hf
        rw [qs11] at fx11
        rw [place_at HVS.out (k := 14) rfl] at sn14
        replace sn14 : ρ (.tmp 148) = _ := sn14
        clear HCS HVS qs7 qs9 qs10 qs11 qs12 qs14 qs16 qs18 qs19 qs20
        first
          | (refine run_passed sn14 ?_
             exact detK.mk)
          | (refine run_guarded sn14 ?_
             refine op_move rfl fx11 ?_
             exact detK.mk)
      -- 16: slot 150 := Op.binOp BinOp.eql 3 t149 ((i64 7)) 3
      refine sure_det (js := [(15, 149), (14, 148)]) (ts := []) (gd := (some (148, true))) (place_at HVS.out (k := 16) rfl) (by rw [HCS.out]; kernel_rfl) ?_ ?_
      · intro wx hx ρ hρ hs hf
        have hρc := hρ.const
        have hρf := hρ.func
        obtain ⟨sn15, sn14, -⟩ := hs
        rw [place_at HVS.out (k := 15) rfl] at sn15
        replace sn15 : ρ (.tmp 149) = _ := sn15
        rw [place_at HVS.out (k := 14) rfl] at sn14
        replace sn14 : ρ (.tmp 148) = _ := sn14
        clear hf
        clear HCS HVS qs7 qs9 qs10 qs11 qs12 qs14 qs16 qs18 qs19 qs20
        first
          | (refine run_passed sn14 ?_
             exact detK.mk)
          | (refine run_guarded sn14 ?_
             unfold runs
             go_simp
             exact detK.mk)
      -- 17: slot 151 := Op.move t150
      refine sure_det (js := [(16, 150), (14, 148)]) (ts := []) (gd := (some (148, true))) (place_at HVS.out (k := 17) rfl) (by rw [HCS.out]; kernel_rfl) ?_ ?_
      · intro wx hx ρ hρ hs hf
        have hρc := hρ.const
        have hρf := hρ.func
        obtain ⟨sn16, sn14, -⟩ := hs
        rw [place_at HVS.out (k := 16) rfl] at sn16
        replace sn16 : ρ (.tmp 150) = _ := sn16
        rw [place_at HVS.out (k := 14) rfl] at sn14
        replace sn14 : ρ (.tmp 148) = _ := sn14
        clear hf
        clear HCS HVS qs7 qs9 qs10 qs11 qs12 qs14 qs16 qs18 qs19 qs20
        first
          | (refine run_passed sn14 ?_
             exact detK.mk)
          | (refine run_guarded sn14 ?_
             refine op_move rfl sn16 ?_
             exact detK.mk)
      -- 18: slot 152 := Op.move t10
      refine sure_det (js := [(17, 151)]) (ts := [10]) (gd := (some (151, true))) (place_at HVS.out (k := 18) rfl) (by rw [HCS.out]; kernel_rfl) ?_ ?_
      · intro wx hx ρ hρ hs hf
        have hρc := hρ.const
        have hρf := hρ.func
        obtain ⟨sn17, -⟩ := hs
        obtain ⟨fx10, -⟩ := hf
        rw [qs10] at fx10
        rw [place_at HVS.out (k := 17) rfl] at sn17
        replace sn17 : ρ (.tmp 151) = _ := sn17
        clear HCS HVS qs7 qs9 qs10 qs11 qs12 qs14 qs16 qs18 qs19 qs20
        first
          | (refine run_passed sn17 ?_
             exact detK.mk)
          | (refine run_guarded sn17 ?_
             refine op_move rfl fx10 ?_
             exact detK.mk)
      -- 19: slot 153 := Op.move t9
      refine sure_det (js := [(17, 151)]) (ts := [9]) (gd := (some (151, true))) (place_at HVS.out (k := 19) rfl) (by rw [HCS.out]; kernel_rfl) ?_ ?_
      · intro wx hx ρ hρ hs hf
        have hρc := hρ.const
        have hρf := hρ.func
        obtain ⟨sn17, -⟩ := hs
        obtain ⟨fx9, -⟩ := hf
        rw [qs9] at fx9
        rw [place_at HVS.out (k := 17) rfl] at sn17
        replace sn17 : ρ (.tmp 151) = _ := sn17
        clear HCS HVS qs7 qs9 qs10 qs11 qs12 qs14 qs16 qs18 qs19 qs20
        first
          | (refine run_passed sn17 ?_
             exact detK.mk)
          | (refine run_guarded sn17 ?_
             refine op_move rfl fx9 ?_
             exact detK.mk)
      -- 20: slot 154 := Op.binOp BinOp.eql 3 t152 t153 3
      refine sure_det (js := [(18, 152), (19, 153), (17, 151)]) (ts := []) (gd := (some (151, true))) (place_at HVS.out (k := 20) rfl) (by rw [HCS.out]; kernel_rfl) ?_ ?_
      · intro wx hx ρ hρ hs hf
        have hρc := hρ.const
        have hρf := hρ.func
        obtain ⟨sn18, sn19, sn17, -⟩ := hs
        rw [place_at HVS.out (k := 18) rfl] at sn18
        replace sn18 : ρ (.tmp 152) = _ := sn18
        rw [place_at HVS.out (k := 19) rfl] at sn19
        replace sn19 : ρ (.tmp 153) = _ := sn19
        rw [place_at HVS.out (k := 17) rfl] at sn17
        replace sn17 : ρ (.tmp 151) = _ := sn17
        clear hf
        clear HCS HVS qs7 qs9 qs10 qs11 qs12 qs14 qs16 qs18 qs19 qs20
        first
          | (refine run_passed sn17 ?_
             exact detK.mk)
          | (refine run_guarded sn17 ?_
             unfold runs
             go_simp
             exact detK.mk)
      -- 21: slot 155 := Op.pick t151 t154 ((Value.bool false))
      refine sure_det (js := [(17, 151), (20, 154), (14, 148)]) (ts := []) (gd := (some (148, true))) (place_at HVS.out (k := 21) rfl) (by rw [HCS.out]; kernel_rfl) ?_ ?_
      · intro wx hx ρ hρ hs hf
        have hρc := hρ.const
        have hρf := hρ.func
        obtain ⟨sn17, sn20, sn14, -⟩ := hs
        rw [place_at HVS.out (k := 17) rfl] at sn17
        replace sn17 : ρ (.tmp 151) = _ := sn17
        rw [place_at HVS.out (k := 20) rfl] at sn20
        replace sn20 : ρ (.tmp 154) = _ := sn20
        rw [place_at HVS.out (k := 14) rfl] at sn14
        replace sn14 : ρ (.tmp 148) = _ := sn14
        clear hf
        clear HCS HVS qs7 qs9 qs10 qs11 qs12 qs14 qs16 qs18 qs19 qs20
        first
          | (refine run_passed sn14 ?_
             exact detK.mk)
          | (refine run_guarded sn14 ?_
             first | refine op_pick_t rfl sn17 sn20 ?_ | refine op_pick_f rfl sn17 (hρ.const _) ?_
             exact detK.mk)
      -- 22: slot 156 := Op.move t155
      refine sure_det (js := [(21, 155), (14, 148)]) (ts := []) (gd := (some (148, true))) (place_at HVS.out (k := 22) rfl) (by rw [HCS.out]; kernel_rfl) ?_ ?_
      · intro wx hx ρ hρ hs hf
        have hρc := hρ.const
        have hρf := hρ.func
        obtain ⟨sn21, sn14, -⟩ := hs
        rw [place_at HVS.out (k := 21) rfl] at sn21
        replace sn21 : ρ (.tmp 155) = _ := sn21
        rw [place_at HVS.out (k := 14) rfl] at sn14
        replace sn14 : ρ (.tmp 148) = _ := sn14
        clear hf
        clear HCS HVS qs7 qs9 qs10 qs11 qs12 qs14 qs16 qs18 qs19 qs20
        first
          | (refine run_passed sn14 ?_
             exact detK.mk)
          | (refine run_guarded sn14 ?_
             refine op_move rfl sn21 ?_
             exact detK.mk)
      -- 23: slot 157 := Op.fieldAddr 42 t14 2
      refine sure_det (js := [(22, 156)]) (ts := [14]) (gd := (some (156, false))) (place_at HVS.out (k := 23) rfl) (by rw [HCS.out]; kernel_rfl) ?_ ?_
      · intro wx hx ρ hρ hs hf
        have hρc := hρ.const
        have hρf := hρ.func
        obtain ⟨sn22, -⟩ := hs
        obtain ⟨fx14, -⟩ := hf
        rw [qs14] at fx14
        rw [place_at HVS.out (k := 22) rfl] at sn22
        replace sn22 : ρ (.tmp 156) = _ := sn22
        clear HCS HVS qs7 qs9 qs10 qs11 qs12 qs14 qs16 qs18 qs19 qs20
        first
          | (refine run_passed sn22 ?_
             exact detK.mk)
          | (refine run_guarded sn22 ?_
             unfold runs
             go_simp
             exact detK.mk)
      -- 24: slot 158 := Op.load 28 t157
      refine sure_det (js := [(23, 157), (22, 156)]) (ts := []) (gd := (some (156, false))) (place_at HVS.out (k := 24) rfl) (by rw [HCS.out]; kernel_rfl) ?_ ?_
      · intro wx hx ρ hρ hs hf
        have hρc := hρ.const
        have hρf := hρ.func
        obtain ⟨sn23, sn22, -⟩ := hs
        rw [place_at HVS.out (k := 23) rfl] at sn23
        replace sn23 : ρ (.tmp 157) = _ := sn23
        rw [place_at HVS.out (k := 22) rfl] at sn22
        replace sn22 : ρ (.tmp 156) = _ := sn22
        clear hf
        clear HCS HVS qs7 qs9 qs10 qs11 qs12 qs14 qs16 qs18 qs19 qs20
        first
          | (refine run_passed sn22 ?_
             exact detK.mk)
          | (refine run_guarded sn22 ?_
             obtain ⟨p2, p3, p4, p5, p6, p7, p8, p9⟩ := hall wx hx
             unfold runs
             go_simp
             exact detK.mk)
      -- 25: slot 159 := Op.move t18
      refine sure_det (js := [(22, 156)]) (ts := [18]) (gd := (some (156, false))) (place_at HVS.out (k := 25) rfl) (by rw [HCS.out]; kernel_rfl) ?_ ?_
      · intro wx hx ρ hρ hs hf
        have hρc := hρ.const
        have hρf := hρ.func
        obtain ⟨sn22, -⟩ := hs
        obtain ⟨fx18, -⟩ := hf
        rw [qs18] at fx18
        rw [place_at HVS.out (k := 22) rfl] at sn22
        replace sn22 : ρ (.tmp 156) = _ := sn22
        clear HCS HVS qs7 qs9 qs10 qs11 qs12 qs14 qs16 qs18 qs19 qs20
        first
          | (refine run_passed sn22 ?_
             exact detK.mk)
          | (refine run_guarded sn22 ?_
             refine op_move rfl fx18 ?_
             exact detK.mk)
      -- 26: slot 160 := Op.indexAddr 28 t158 t159
      refine sure_det (js := [(24, 158), (25, 159), (22, 156)]) (ts := []) (gd := (some (156, false))) (place_at HVS.out (k := 26) rfl) (by rw [HCS.out]; kernel_rfl) ?_ ?_
      · intro wx hx ρ hρ hs hf
        have hρc := hρ.const
        have hρf := hρ.func
        obtain ⟨sn24, sn25, sn22, -⟩ := hs
        rw [place_at HVS.out (k := 24) rfl] at sn24
        replace sn24 : ρ (.tmp 158) = _ := sn24
        rw [place_at HVS.out (k := 25) rfl] at sn25
        replace sn25 : ρ (.tmp 159) = _ := sn25
        rw [place_at HVS.out (k := 22) rfl] at sn22
        replace sn22 : ρ (.tmp 156) = _ := sn22
        clear hf
        clear HCS HVS qs7 qs9 qs10 qs11 qs12 qs14 qs16 qs18 qs19 qs20
        first
          | (refine run_passed sn22 ?_
             exact detK.mk)
          | (refine run_guarded sn22 ?_
             unfold runs
             go_simp
             exact detK.mk)
      -- 27: slot 161 := Op.load 26 t160
      refine sure_det (js := [(26, 160), (22, 156)]) (ts := []) (gd := (some (156, false))) (place_at HVS.out (k := 27) rfl) (by rw [HCS.out]; kernel_rfl) ?_ ?_
      · intro wx hx ρ hρ hs hf
        have hρc := hρ.const
        have hρf := hρ.func
        obtain ⟨sn26, sn22, -⟩ := hs
        rw [place_at HVS.out (k := 26) rfl] at sn26
        replace sn26 : ρ (.tmp 160) = _ := sn26
        rw [place_at HVS.out (k := 22) rfl] at sn22
        replace sn22 : ρ (.tmp 156) = _ := sn22
        clear hf
        clear HCS HVS qs7 qs9 qs10 qs11 qs12 qs14 qs16 qs18 qs19 qs20
        first
          | (refine run_passed sn22 ?_
             exact detK.mk)
          | (refine run_guarded sn22 ?_
             obtain ⟨p2, p3, p4, p5, p6, p7, p8, p9⟩ := hall wx hx
             unfold runs
             go_simp
             exact detK.mk)
      -- 28: slot 162 := Op.fieldAddr 42 t12 2
      refine sure_det (js := [(22, 156)]) (ts := [12]) (gd := (some (156, false))) (place_at HVS.out (k := 28) rfl) (by rw [HCS.out]; kernel_rfl) ?_ ?_
      · intro wx hx ρ hρ hs hf
        have hρc := hρ.const
        have hρf := hρ.func
        obtain ⟨sn22, -⟩ := hs
        obtain ⟨fx12, -⟩ := hf
        rw [qs12] at fx12
        rw [place_at HVS.out (k := 22) rfl] at sn22
        replace sn22 : ρ (.tmp 156) = _ := sn22
        clear HCS HVS qs7 qs9 qs10 qs11 qs12 qs14 qs16 qs18 qs19 qs20
        first
          | (refine run_passed sn22 ?_
             exact detK.mk)
          | (refine run_guarded sn22 ?_
             unfold runs
             go_simp
             exact detK.mk)
      -- 29: slot 163 := Op.load 28 t162
      refine sure_det (js := [(28, 162), (22, 156)]) (ts := []) (gd := (some (156, false))) (place_at HVS.out (k := 29) rfl) (by rw [HCS.out]; kernel_rfl) ?_ ?_
      · intro wx hx ρ hρ hs hf
        have hρc := hρ.const
        have hρf := hρ.func
        obtain ⟨sn28, sn22, -⟩ := hs
        rw [place_at HVS.out (k := 28) rfl] at sn28
        replace sn28 : ρ (.tmp 162) = _ := sn28
        rw [place_at HVS.out (k := 22) rfl] at sn22
        replace sn22 : ρ (.tmp 156) = _ := sn22
        clear hf
        clear HCS HVS qs7 qs9 qs10 qs11 qs12 qs14 qs16 qs18 qs19 qs20
        first
          | (refine run_passed sn22 ?_
             exact detK.mk)
          | (refine run_guarded sn22 ?_
             obtain ⟨p2, p3, p4, p5, p6, p7, p8, p9⟩ := hall wx hx
             unfold runs
             go_simp
             exact detK.mk)
      -- 30: slot 164 := Op.move t18
      refine sure_det (js := [(22, 156)]) (ts := [18]) (gd := (some (156, false))) (place_at HVS.out (k := 30) rfl) (by rw [HCS.out]; kernel_rfl) ?_ ?_
      · intro wx hx ρ hρ hs hf
        have hρc := hρ.const
        have hρf := hρ.func
        obtain ⟨sn22, -⟩ := hs
        obtain ⟨fx18, -⟩ := hf
        rw [qs18] at fx18
        rw [place_at HVS.out (k := 22) rfl] at sn22
        replace sn22 : ρ (.tmp 156) = _ := sn22
        clear HCS HVS qs7 qs9 qs10 qs11 qs12 qs14 qs16 qs18 qs19 qs20
        first
          | (refine run_passed sn22 ?_
             exact detK.mk)
          | (refine run_guarded sn22 ?_
             refine op_move rfl fx18 ?_
             exact detK.mk)
      -- 31: slot 165 := Op.indexAddr 28 t163 t164
      refine sure_det (js := [(29, 163), (30, 164), (22, 156)]) (ts := []) (gd := (some (156, false))) (place_at HVS.out (k := 31) rfl) (by rw [HCS.out]; kernel_rfl) ?_ ?_
      · intro wx hx ρ hρ hs hf
        have hρc := hρ.const
        have hρf := hρ.func
        obtain ⟨sn29, sn30, sn22, -⟩ := hs
        rw [place_at HVS.out (k := 29) rfl] at sn29
        replace sn29 : ρ (.tmp 163) = _ := sn29
        rw [place_at HVS.out (k := 30) rfl] at sn30
        replace sn30 : ρ (.tmp 164) = _ := sn30
        rw [place_at HVS.out (k := 22) rfl] at sn22
        replace sn22 : ρ (.tmp 156) = _ := sn22
        clear hf
        clear HCS HVS qs7 qs9 qs10 qs11 qs12 qs14 qs16 qs18 qs19 qs20
        first
          | (refine run_passed sn22 ?_
             exact detK.mk)
          | (refine run_guarded sn22 ?_
             unfold runs
             go_simp
             exact detK.mk)
      -- 32: slot 166 := Op.load 26 t165
      refine sure_det (js := [(31, 165), (22, 156)]) (ts := []) (gd := (some (156, false))) (place_at HVS.out (k := 32) rfl) (by rw [HCS.out]; kernel_rfl) ?_ ?_
      · intro wx hx ρ hρ hs hf
        have hρc := hρ.const
        have hρf := hρ.func
        obtain ⟨sn31, sn22, -⟩ := hs
        rw [place_at HVS.out (k := 31) rfl] at sn31
        replace sn31 : ρ (.tmp 165) = _ := sn31
        rw [place_at HVS.out (k := 22) rfl] at sn22
        replace sn22 : ρ (.tmp 156) = _ := sn22
        clear hf
        clear HCS HVS qs7 qs9 qs10 qs11 qs12 qs14 qs16 qs18 qs19 qs20
        first
          | (refine run_passed sn22 ?_
             exact detK.mk)
          | (refine run_guarded sn22 ?_
             obtain ⟨p2, p3, p4, p5, p6, p7, p8, p9⟩ := hall wx hx
             unfold runs
             go_simp
             exact detK.mk)
      -- 33: slot 167 := Op.binOp BinOp.eql 26 t161 t166 26
      refine sure_det (js := [(27, 161), (32, 166), (22, 156)]) (ts := []) (gd := (some (156, false))) (place_at HVS.out (k := 33) rfl) (by rw [HCS.out]; kernel_rfl) ?_ ?_
      · intro wx hx ρ hρ hs hf
        have hρc := hρ.const
        have hρf := hρ.func
        obtain ⟨sn27, sn32, sn22, -⟩ := hs
        rw [place_at HVS.out (k := 27) rfl] at sn27
        replace sn27 : ρ (.tmp 161) = _ := sn27
        rw [place_at HVS.out (k := 32) rfl] at sn32
        replace sn32 : ρ (.tmp 166) = _ := sn32
        rw [place_at HVS.out (k := 22) rfl] at sn22
        replace sn22 : ρ (.tmp 156) = _ := sn22
        clear hf
        clear HCS HVS qs7 qs9 qs10 qs11 qs12 qs14 qs16 qs18 qs19 qs20
        first
          | (refine run_passed sn22 ?_
             exact detK.mk)
          | (refine run_guarded sn22 ?_
             unfold runs
             go_simp
             exact detK.mk)
      -- 34: slot 168 := Op.pick t156 ((Value.bool true)) t167
      refine sure_det (js := [(22, 156), (33, 167), (14, 148)]) (ts := []) (gd := (some (148, true))) (place_at HVS.out (k := 34) rfl) (by rw [HCS.out]; kernel_rfl) ?_ ?_
      · intro wx hx ρ hρ hs hf
        have hρc := hρ.const
        have hρf := hρ.func
        obtain ⟨sn22, sn33, sn14, -⟩ := hs
        rw [place_at HVS.out (k := 22) rfl] at sn22
        replace sn22 : ρ (.tmp 156) = _ := sn22
        rw [place_at HVS.out (k := 33) rfl] at sn33
        replace sn33 : ρ (.tmp 167) = _ := sn33
        rw [place_at HVS.out (k := 14) rfl] at sn14
        replace sn14 : ρ (.tmp 148) = _ := sn14
        clear hf
        clear HCS HVS qs7 qs9 qs10 qs11 qs12 qs14 qs16 qs18 qs19 qs20
        first
          | (refine run_passed sn14 ?_
             exact detK.mk)
          | (refine run_guarded sn14 ?_
             first | refine op_pick_t rfl sn22 (hρ.const _) ?_ | refine op_pick_f rfl sn22 sn33 ?_
             exact detK.mk)
      -- 35: slot 169 := Op.pick t148 t168 ((Value.bool false))
      refine sure_det (js := [(14, 148), (34, 168)]) (ts := []) (gd := none) (place_at HVS.out (k := 35) rfl) (by rw [HCS.out]; kernel_rfl) ?_ ?_
      · intro wx hx ρ hρ hs hf
        have hρc := hρ.const
        have hρf := hρ.func
        obtain ⟨sn14, sn34, -⟩ := hs
        rw [place_at HVS.out (k := 14) rfl] at sn14
        replace sn14 : ρ (.tmp 148) = _ := sn14
        rw [place_at HVS.out (k := 34) rfl] at sn34
        replace sn34 : ρ (.tmp 168) = _ := sn34
        clear hf
        clear HCS HVS qs7 qs9 qs10 qs11 qs12 qs14 qs16 qs18 qs19 qs20
        refine run_plain ?_
        first | refine op_pick_t rfl sn14 sn34 ?_ | refine op_pick_f rfl sn14 (hρ.const _) ?_
        exact detK.mk
      -- 36: slot 170 := Op.move t169
      refine sure_det (js := [(35, 169)]) (ts := []) (gd := none) (place_at HVS.out (k := 36) rfl) (by rw [HCS.out]; kernel_rfl) ?_ ?_
      · intro wx hx ρ hρ hs hf
        have hρc := hρ.const
        have hρf := hρ.func
        obtain ⟨sn35, -⟩ := hs
        rw [place_at HVS.out (k := 35) rfl] at sn35
        replace sn35 : ρ (.tmp 169) = _ := sn35
        clear hf
        clear HCS HVS qs7 qs9 qs10 qs11 qs12 qs14 qs16 qs18 qs19 qs20
        refine run_plain ?_
        refine op_move rfl sn35 ?_
        exact detK.mk
      -- 37: slot 171 := Op.fieldAddr 42 t12 2
      refine sure_det (js := [(36, 170)]) (ts := [12]) (gd := (some (170, true))) (place_at HVS.out (k := 37) rfl) (by rw [HCS.out]; kernel_rfl) ?_ ?_
      · intro wx hx ρ hρ hs hf
        have hρc := hρ.const
        have hρf := hρ.func
        obtain ⟨sn36, -⟩ := hs
        obtain ⟨fx12, -⟩ := hf
        rw [qs12] at fx12
        rw [place_at HVS.out (k := 36) rfl] at sn36
        replace sn36 : ρ (.tmp 170) = _ := sn36
        clear HCS HVS qs7 qs9 qs10 qs11 qs12 qs14 qs16 qs18 qs19 qs20
        first
          | (refine run_passed sn36 ?_
             exact detK.mk)
          | (refine run_guarded sn36 ?_
             unfold runs
             go_simp
             exact detK.mk)
      -- 38: slot 172 := Op.load 28 t171
      refine sure_det (js := [(37, 171), (36, 170)]) (ts := []) (gd := (some (170, true))) (place_at HVS.out (k := 38) rfl) (by rw [HCS.out]; kernel_rfl) ?_ ?_
      · intro wx hx ρ hρ hs hf
        have hρc := hρ.const
        have hρf := hρ.func
        obtain ⟨sn37, sn36, -⟩ := hs
        rw [place_at HVS.out (k := 37) rfl] at sn37
        replace sn37 : ρ (.tmp 171) = _ := sn37
        rw [place_at HVS.out (k := 36) rfl] at sn36
        replace sn36 : ρ (.tmp 170) = _ := sn36
        clear hf
        clear HCS HVS qs7 qs9 qs10 qs11 qs12 qs14 qs16 qs18 qs19 qs20
        first
          | (refine run_passed sn36 ?_
             exact detK.mk)
          | (refine run_guarded sn36 ?_
             obtain ⟨p2, p3, p4, p5, p6, p7, p8, p9⟩ := hall wx hx
             unfold runs
             go_simp
             exact detK.mk)
      -- 39: slot 173 := Op.move t20
      refine sure_det (js := [(36, 170)]) (ts := [20]) (gd := (some (170, true))) (place_at HVS.out (k := 39) rfl) (by rw [HCS.out]; kernel_rfl) ?_ ?_
      · intro wx hx ρ hρ hs hf
        have hρc := hρ.const
        have hρf := hρ.func
        obtain ⟨sn36, -⟩ := hs
        obtain ⟨fx20, -⟩ := hf
        rw [qs20] at fx20
        rw [place_at HVS.out (k := 36) rfl] at sn36
        replace sn36 : ρ (.tmp 170) = _ := sn36
        clear HCS HVS qs7 qs9 qs10 qs11 qs12 qs14 qs16 qs18 qs19 qs20
        first
          | (refine run_passed sn36 ?_
             exact detK.mk)
          | (refine run_guarded sn36 ?_
             refine op_move rfl fx20 ?_
             exact detK.mk)
      -- 40: slot 174 := Op.indexAddr 28 t172 t173
      refine sure_det (js := [(38, 172), (39, 173), (36, 170)]) (ts := []) (gd := (some (170, true))) (place_at HVS.out (k := 40) rfl) (by rw [HCS.out]; kernel_rfl) ?_ ?_
      · intro wx hx ρ hρ hs hf
        have hρc := hρ.const
        have hρf := hρ.func
        obtain ⟨sn38, sn39, sn36, -⟩ := hs
        rw [place_at HVS.out (k := 38) rfl] at sn38
        replace sn38 : ρ (.tmp 172) = _ := sn38
        rw [place_at HVS.out (k := 39) rfl] at sn39
        replace sn39 : ρ (.tmp 173) = _ := sn39
        rw [place_at HVS.out (k := 36) rfl] at sn36
        replace sn36 : ρ (.tmp 170) = _ := sn36
        clear hf
        clear HCS HVS qs7 qs9 qs10 qs11 qs12 qs14 qs16 qs18 qs19 qs20
        first
          | (refine run_passed sn36 ?_
             exact detK.mk)
          | (refine run_guarded sn36 ?_
             unfold runs
             go_simp
             exact detK.mk)
      -- 41: slot 175 := Op.load 26 t174
      refine sure_det (js := [(40, 174), (36, 170)]) (ts := []) (gd := (some (170, true))) (place_at HVS.out (k := 41) rfl) (by rw [HCS.out]; kernel_rfl) ?_ ?_
      · intro wx hx ρ hρ hs hf
        have hρc := hρ.const
        have hρf := hρ.func
        obtain ⟨sn40, sn36, -⟩ := hs
        rw [place_at HVS.out (k := 40) rfl] at sn40
        replace sn40 : ρ (.tmp 174) = _ := sn40
        rw [place_at HVS.out (k := 36) rfl] at sn36
        replace sn36 : ρ (.tmp 170) = _ := sn36
        clear hf
        clear HCS HVS qs7 qs9 qs10 qs11 qs12 qs14 qs16 qs18 qs19 qs20
        first
          | (refine run_passed sn36 ?_
             exact detK.mk)
          | (refine run_guarded sn36 ?_
             obtain ⟨p2, p3, p4, p5, p6, p7, p8, p9⟩ := hall wx hx
             unfold runs
             go_simp
             exact detK.mk)
      -- 42: slot 176 := Op.binOp BinOp.eql 26 t175 ((u64 0)) 26
      refine sure_det (js := [(41, 175), (36, 170)]) (ts := []) (gd := (some (170, true))) (place_at HVS.out (k := 42) rfl) (by rw [HCS.out]; kernel_rfl) ?_ ?_
      · intro wx hx ρ hρ hs hf
        have hρc := hρ.const
        have hρf := hρ.func
        obtain ⟨sn41, sn36, -⟩ := hs
        rw [place_at HVS.out (k := 41) rfl] at sn41
        replace sn41 : ρ (.tmp 175) = _ := sn41
        rw [place_at HVS.out (k := 36) rfl] at sn36
        replace sn36 : ρ (.tmp 170) = _ := sn36
        clear hf
        clear HCS HVS qs7 qs9 qs10 qs11 qs12 qs14 qs16 qs18 qs19 qs20
        first
          | (refine run_passed sn36 ?_
             exact detK.mk)
          | (refine run_guarded sn36 ?_
             unfold runs
             go_simp
             exact detK.mk)
      -- 43: slot 177 := Op.pick t170 t176 ((Value.bool false))
      refine sure_det (js := [(36, 170), (42, 176)]) (ts := []) (gd := none) (place_at HVS.out (k := 43) rfl) (by rw [HCS.out]; kernel_rfl) ?_ ?_
      · intro wx hx ρ hρ hs hf
        have hρc := hρ.const
        have hρf := hρ.func
        obtain ⟨sn36, sn42, -⟩ := hs
        rw [place_at HVS.out (k := 36) rfl] at sn36
        replace sn36 : ρ (.tmp 170) = _ := sn36
        rw [place_at HVS.out (k := 42) rfl] at sn42
        replace sn42 : ρ (.tmp 176) = _ := sn42
        clear hf
        clear HCS HVS qs7 qs9 qs10 qs11 qs12 qs14 qs16 qs18 qs19 qs20
        refine run_plain ?_
        first | refine op_pick_t rfl sn36 sn42 ?_ | refine op_pick_f rfl sn36 (hρ.const _) ?_
        exact detK.mk
      -- 44: slot 178 := Op.move t177
      refine sure_det (js := [(43, 177)]) (ts := []) (gd := none) (place_at HVS.out (k := 44) rfl) (by rw [HCS.out]; kernel_rfl) ?_ ?_
      · intro wx hx ρ hρ hs hf
        have hρc := hρ.const
        have hρf := hρ.func
        obtain ⟨sn43, -⟩ := hs
        rw [place_at HVS.out (k := 43) rfl] at sn43
        replace sn43 : ρ (.tmp 177) = _ := sn43
        clear hf
        clear HCS HVS qs7 qs9 qs10 qs11 qs12 qs14 qs16 qs18 qs19 qs20
        refine run_plain ?_
        refine op_move rfl sn43 ?_
        exact detK.mk
      -- 45: slot 179 := Op.fieldAddr 42 t14 2
      refine sure_det (js := [(44, 178)]) (ts := [14]) (gd := (some (178, true))) (place_at HVS.out (k := 45) rfl) (by rw [HCS.out]; kernel_rfl) ?_ ?_
      · intro wx hx ρ hρ hs hf
        have hρc := hρ.const
        have hρf := hρ.func
        obtain ⟨sn44, -⟩ := hs
        obtain ⟨fx14, -⟩ := hf
        rw [qs14] at fx14
        rw [place_at HVS.out (k := 44) rfl] at sn44
        replace sn44 : ρ (.tmp 178) = _ := sn44
        clear HCS HVS qs7 qs9 qs10 qs11 qs12 qs14 qs16 qs18 qs19 qs20
        first
          | (refine run_passed sn44 ?_
             exact detK.mk)
          | (refine run_guarded sn44 ?_
             unfold runs
             go_simp
             exact detK.mk)
      -- 46: slot 180 := Op.load 28 t179
      refine sure_det (js := [(45, 179), (44, 178)]) (ts := []) (gd := (some (178, true))) (place_at HVS.out (k := 46) rfl) (by rw [HCS.out]; kernel_rfl) ?_ ?_
      · intro wx hx ρ hρ hs hf
        have hρc := hρ.const
        have hρf := hρ.func
        obtain ⟨sn45, sn44, -⟩ := hs
        rw [place_at HVS.out (k := 45) rfl] at sn45
        replace sn45 : ρ (.tmp 179) = _ := sn45
        rw [place_at HVS.out (k := 44) rfl] at sn44
        replace sn44 : ρ (.tmp 178) = _ := sn44
        clear hf
        clear HCS HVS qs7 qs9 qs10 qs11 qs12 qs14 qs16 qs18 qs19 qs20
        first
          | (refine run_passed sn44 ?_
             exact detK.mk)
          | (refine run_guarded sn44 ?_
             obtain ⟨p2, p3, p4, p5, p6, p7, p8, p9⟩ := hall wx hx
             unfold runs
             go_simp
             exact detK.mk)
      -- 47: slot 181 := Op.move t20
      refine sure_det (js := [(44, 178)]) (ts := [20]) (gd := (some (178, true))) (place_at HVS.out (k := 47) rfl) (by rw [HCS.out]; kernel_rfl) ?_ ?_
      · intro wx hx ρ hρ hs hf
        have hρc := hρ.const
        have hρf := hρ.func
        obtain ⟨sn44, -⟩ := hs
        obtain ⟨fx20, -⟩ := hf
        rw [qs20] at fx20
        rw [place_at HVS.out (k := 44) rfl] at sn44
        replace sn44 : ρ (.tmp 178) = _ := sn44
        clear HCS HVS qs7 qs9 qs10 qs11 qs12 qs14 qs16 qs18 qs19 qs20
        first
          | (refine run_passed sn44 ?_
             exact detK.mk)
          | (refine run_guarded sn44 ?_
             refine op_move rfl fx20 ?_
             exact detK.mk)
      -- 48: slot 182 := Op.indexAddr 28 t180 t181
      refine sure_det (js := [(46, 180), (47, 181), (44, 178)]) (ts := []) (gd := (some (178, true))) (place_at HVS.out (k := 48) rfl) (by rw [HCS.out]; kernel_rfl) ?_ ?_
      · intro wx hx ρ hρ hs hf
        have hρc := hρ.const
        have hρf := hρ.func
        obtain ⟨sn46, sn47, sn44, -⟩ := hs
        rw [place_at HVS.out (k := 46) rfl] at sn46
        replace sn46 : ρ (.tmp 180) = _ := sn46
        rw [place_at HVS.out (k := 47) rfl] at sn47
        replace sn47 : ρ (.tmp 181) = _ := sn47
        rw [place_at HVS.out (k := 44) rfl] at sn44
        replace sn44 : ρ (.tmp 178) = _ := sn44
        clear hf
        clear HCS HVS qs7 qs9 qs10 qs11 qs12 qs14 qs16 qs18 qs19 qs20
        first
          | (refine run_passed sn44 ?_
             exact detK.mk)
          | (refine run_guarded sn44 ?_
             unfold runs
             go_simp
             exact detK.mk)
      -- 49: slot 183 := Op.load 26 t182
      refine sure_det (js := [(48, 182), (44, 178)]) (ts := []) (gd := (some (178, true))) (place_at HVS.out (k := 49) rfl) (by rw [HCS.out]; kernel_rfl) ?_ ?_
      · intro wx hx ρ hρ hs hf
        have hρc := hρ.const
        have hρf := hρ.func
        obtain ⟨sn48, sn44, -⟩ := hs
        rw [place_at HVS.out (k := 48) rfl] at sn48
        replace sn48 : ρ (.tmp 182) = _ := sn48
        rw [place_at HVS.out (k := 44) rfl] at sn44
        replace sn44 : ρ (.tmp 178) = _ := sn44
        clear hf
        clear HCS HVS qs7 qs9 qs10 qs11 qs12 qs14 qs16 qs18 qs19 qs20
        first
          | (refine run_passed sn44 ?_
             exact detK.mk)
          | (refine run_guarded sn44 ?_
             obtain ⟨p2, p3, p4, p5, p6, p7, p8, p9⟩ := hall wx hx
             unfold runs
             go_simp
             exact detK.mk)
      -- 50: slot 184 := Op.move t9
      refine sure_det (js := [(44, 178)]) (ts := [9]) (gd := (some (178, true))) (place_at HVS.out (k := 50) rfl) (by rw [HCS.out]; kernel_rfl) ?_ ?_
      · intro wx hx ρ hρ hs hf
        have hρc := hρ.const
        have hρf := hρ.func
        obtain ⟨sn44, -⟩ := hs
        obtain ⟨fx9, -⟩ := hf
        rw [qs9] at fx9
        rw [place_at HVS.out (k := 44) rfl] at sn44
        replace sn44 : ρ (.tmp 178) = _ := sn44
        clear HCS HVS qs7 qs9 qs10 qs11 qs12 qs14 qs16 qs18 qs19 qs20
        first
          | (refine run_passed sn44 ?_
             exact detK.mk)
          | (refine run_guarded sn44 ?_
             refine op_move rfl fx9 ?_
             exact detK.mk)
      -- 51: slot 185 := Op.binOp BinOp.add 3 t184 ((i64 1)) 3
      refine sure_det (js := [(50, 184), (44, 178)]) (ts := []) (gd := (some (178, true))) (place_at HVS.out (k := 51) rfl) (by rw [HCS.out]; kernel_rfl) ?_ ?_
      · intro wx hx ρ hρ hs hf
        have hρc := hρ.const
        have hρf := hρ.func
        obtain ⟨sn50, sn44, -⟩ := hs
        rw [place_at HVS.out (k := 50) rfl] at sn50
        replace sn50 : ρ (.tmp 184) = _ := sn50
        rw [place_at HVS.out (k := 44) rfl] at sn44
        replace sn44 : ρ (.tmp 178) = _ := sn44
        clear hf
        clear HCS HVS qs7 qs9 qs10 qs11 qs12 qs14 qs16 qs18 qs19 qs20
        first
          | (refine run_passed sn44 ?_
             exact detK.mk)
          | (refine run_guarded sn44 ?_
             unfold runs
             go_simp
             exact detK.mk)
      -- 52: slot 186 := Op.convert 3 26 t185
      refine sure_det (js := [(51, 185), (44, 178)]) (ts := []) (gd := (some (178, true))) (place_at HVS.out (k := 52) rfl) (by rw [HCS.out]; kernel_rfl) ?_ ?_
      · intro wx hx ρ hρ hs hf
        have hρc := hρ.const
        have hρf := hρ.func
        obtain ⟨sn51, sn44, -⟩ := hs
        rw [place_at HVS.out (k := 51) rfl] at sn51
        replace sn51 : ρ (.tmp 185) = _ := sn51
        rw [place_at HVS.out (k := 44) rfl] at sn44
        replace sn44 : ρ (.tmp 178) = _ := sn44
        clear hf
        clear HCS HVS qs7 qs9 qs10 qs11 qs12 qs14 qs16 qs18 qs19 qs20
        first
          | (refine run_passed sn44 ?_
             exact detK.mk)
          | (refine run_guarded sn44 ?_
             unfold runs
             go_simp
             exact detK.mk)
      -- 53: slot 187 := Op.binOp BinOp.eql 26 t183 t186 26
      refine sure_det (js := [(49, 183), (52, 186), (44, 178)]) (ts := []) (gd := (some (178, true))) (place_at HVS.out (k := 53) rfl) (by rw [HCS.out]; kernel_rfl) ?_ ?_
      · intro wx hx ρ hρ hs hf
        have hρc := hρ.const
        have hρf := hρ.func
        obtain ⟨sn49, sn52, sn44, -⟩ := hs
        rw [place_at HVS.out (k := 49) rfl] at sn49
        replace sn49 : ρ (.tmp 183) = _ := sn49
        rw [place_at HVS.out (k := 52) rfl] at sn52
        replace sn52 : ρ (.tmp 186) = _ := sn52
        rw [place_at HVS.out (k := 44) rfl] at sn44
        replace sn44 : ρ (.tmp 178) = _ := sn44
        clear hf
        clear HCS HVS qs7 qs9 qs10 qs11 qs12 qs14 qs16 qs18 qs19 qs20
        first
          | (refine run_passed sn44 ?_
             exact detK.mk)
          | (refine run_guarded sn44 ?_
             unfold runs
             go_simp
             exact detK.mk)
      -- 54: slot 188 := Op.pick t178 t187 ((Value.bool false))
      refine sure_det (js := [(44, 178), (53, 187)]) (ts := []) (gd := none) (place_at HVS.out (k := 54) rfl) (by rw [HCS.out]; kernel_rfl) ?_ ?_
      · intro wx hx ρ hρ hs hf
        have hρc := hρ.const
        have hρf := hρ.func
        obtain ⟨sn44, sn53, -⟩ := hs
        rw [place_at HVS.out (k := 44) rfl] at sn44
        replace sn44 : ρ (.tmp 178) = _ := sn44
        rw [place_at HVS.out (k := 53) rfl] at sn53
        replace sn53 : ρ (.tmp 187) = _ := sn53
        clear hf
        clear HCS HVS qs7 qs9 qs10 qs11 qs12 qs14 qs16 qs18 qs19 qs20
        refine run_plain ?_
        first | refine op_pick_t rfl sn44 sn53 ?_ | refine op_pick_f rfl sn44 (hρ.const _) ?_
        exact detK.mk
      -- 55: slot 2 := Op.assign t188
      refine sure_det (js := [(54, 188)]) (ts := []) (gd := none) (place_at HVS.out (k := 55) rfl) (by rw [HCS.out]; kernel_rfl) ?_ ?_
      · intro wx hx ρ hρ hs hf
        have hρc := hρ.const
        have hρf := hρ.func
        obtain ⟨sn54, -⟩ := hs
        rw [place_at HVS.out (k := 54) rfl] at sn54
        replace sn54 : ρ (.tmp 188) = _ := sn54
        clear hf
        clear HCS HVS qs7 qs9 qs10 qs11 qs12 qs14 qs16 qs18 qs19 qs20
        refine run_plain ?_
        refine op_assign rfl sn54 ?_
        exact detK.mk
      exact trivial
    case hend =>
      intro xs wx hx hg
      have gk0 : xs 0 = _ := goods_get hg (i := 0) (j := 0) (d := 134) rfl
      have gk1 : xs 1 = _ := goods_get hg (i := 1) (j := 1) (d := 135) rfl
      have gk2 : xs 2 = _ := goods_get hg (i := 2) (j := 2) (d := 136) rfl
      have gk3 : xs 3 = _ := goods_get hg (i := 3) (j := 3) (d := 137) rfl
      have gk4 : xs 4 = _ := goods_get hg (i := 4) (j := 4) (d := 138) rfl
      have gk5 : xs 5 = _ := goods_get hg (i := 5) (j := 5) (d := 139) rfl
      have gk6 : xs 6 = _ := goods_get hg (i := 6) (j := 6) (d := 140) rfl
      have gk7 : xs 7 = _ := goods_get hg (i := 7) (j := 7) (d := 141) rfl
      have gk8 : xs 8 = _ := goods_get hg (i := 8) (j := 8) (d := 142) rfl
      have gk9 : xs 9 = _ := goods_get hg (i := 9) (j := 9) (d := 143) rfl
      have gk10 : xs 10 = _ := goods_get hg (i := 10) (j := 10) (d := 144) rfl
      have gk11 : xs 11 = _ := goods_get hg (i := 11) (j := 11) (d := 145) rfl
      have gk12 : xs 12 = _ := goods_get hg (i := 12) (j := 12) (d := 146) rfl
      have gk13 : xs 13 = _ := goods_get hg (i := 13) (j := 13) (d := 147) rfl
      have gk14 : xs 14 = _ := goods_get hg (i := 14) (j := 14) (d := 148) rfl
      have gk15 : xs 15 = _ := goods_get hg (i := 15) (j := 15) (d := 149) rfl
      have gk16 : xs 16 = _ := goods_get hg (i := 16) (j := 16) (d := 150) rfl
      have gk17 : xs 17 = _ := goods_get hg (i := 17) (j := 17) (d := 151) rfl
      have gk18 : xs 18 = _ := goods_get hg (i := 18) (j := 18) (d := 152) rfl
      have gk19 : xs 19 = _ := goods_get hg (i := 19) (j := 19) (d := 153) rfl
      have gk20 : xs 20 = _ := goods_get hg (i := 20) (j := 20) (d := 154) rfl
      have gk21 : xs 21 = _ := goods_get hg (i := 21) (j := 21) (d := 155) rfl
      have gk22 : xs 22 = _ := goods_get hg (i := 22) (j := 22) (d := 156) rfl
      have gk23 : xs 23 = _ := goods_get hg (i := 23) (j := 23) (d := 157) rfl
      have gk24 : xs 24 = _ := goods_get hg (i := 24) (j := 24) (d := 158) rfl
      have gk25 : xs 25 = _ := goods_get hg (i := 25) (j := 25) (d := 159) rfl
      have gk26 : xs 26 = _ := goods_get hg (i := 26) (j := 26) (d := 160) rfl
      have gk27 : xs 27 = _ := goods_get hg (i := 27) (j := 27) (d := 161) rfl
      have gk28 : xs 28 = _ := goods_get hg (i := 28) (j := 28) (d := 162) rfl
      have gk29 : xs 29 = _ := goods_get hg (i := 29) (j := 29) (d := 163) rfl
      have gk30 : xs 30 = _ := goods_get hg (i := 30) (j := 30) (d := 164) rfl
      have gk31 : xs 31 = _ := goods_get hg (i := 31) (j := 31) (d := 165) rfl
      have gk32 : xs 32 = _ := goods_get hg (i := 32) (j := 32) (d := 166) rfl
      have gk33 : xs 33 = _ := goods_get hg (i := 33) (j := 33) (d := 167) rfl
      have gk34 : xs 34 = _ := goods_get hg (i := 34) (j := 34) (d := 168) rfl
      have gk35 : xs 35 = _ := goods_get hg (i := 35) (j := 35) (d := 169) rfl
      have gk36 : xs 36 = _ := goods_get hg (i := 36) (j := 36) (d := 170) rfl
      have gk37 : xs 37 = _ := goods_get hg (i := 37) (j := 37) (d := 171) rfl
      have gk38 : xs 38 = _ := goods_get hg (i := 38) (j := 38) (d := 172) rfl
      have gk39 : xs 39 = _ := goods_get hg (i := 39) (j := 39) (d := 173) rfl
      have gk40 : xs 40 = _ := goods_get hg (i := 40) (j := 40) (d := 174) rfl
      have gk41 : xs 41 = _ := goods_get hg (i := 41) (j := 41) (d := 175) rfl
      have gk42 : xs 42 = _ := goods_get hg (i := 42) (j := 42) (d := 176) rfl
      have gk43 : xs 43 = _ := goods_get hg (i := 43) (j := 43) (d := 177) rfl
      have gk44 : xs 44 = _ := goods_get hg (i := 44) (j := 44) (d := 178) rfl
      have gk45 : xs 45 = _ := goods_get hg (i := 45) (j := 45) (d := 179) rfl
      have gk46 : xs 46 = _ := goods_get hg (i := 46) (j := 46) (d := 180) rfl
      have gk47 : xs 47 = _ := goods_get hg (i := 47) (j := 47) (d := 181) rfl
      have gk48 : xs 48 = _ := goods_get hg (i := 48) (j := 48) (d := 182) rfl
      have gk49 : xs 49 = _ := goods_get hg (i := 49) (j := 49) (d := 183) rfl
      have gk50 : xs 50 = _ := goods_get hg (i := 50) (j := 50) (d := 184) rfl
      have gk51 : xs 51 = _ := goods_get hg (i := 51) (j := 51) (d := 185) rfl
      have gk52 : xs 52 = _ := goods_get hg (i := 52) (j := 52) (d := 186) rfl
      have gk53 : xs 53 = _ := goods_get hg (i := 53) (j := 53) (d := 187) rfl
      have gk54 : xs 54 = _ := goods_get hg (i := 54) (j := 54) (d := 188) rfl
      have gk55 : xs 55 = _ := goods_get hg (i := 55) (j := 55) (d := 2) rfl
      clear hg
      simp only [putAll, gk0, gk1, gk2, gk3, gk4, gk5, gk6, gk7, gk8, gk9, gk10, gk11, gk12, gk13, gk14, gk15, gk16, gk17, gk18, gk19, gk20, gk21, gk22, gk23, gk24, gk25, gk26, gk27, gk28, gk29, gk30, gk31, gk32, gk33, gk34, gk35, gk36, gk37, gk38, gk39, gk40, gk41, gk42, gk43, gk44, gk45, gk46, gk47, gk48, gk49, gk50, gk51, gk52, gk53, gk54, gk55]
      clear gk0 gk1 gk2 gk3 gk4 gk5 gk6 gk7 gk8 gk9 gk10 gk11 gk12 gk13 gk14 gk15 gk16 gk17 gk18 gk19 gk20 gk21 gk22 gk23 gk24 gk25 gk26 gk27 gk28 gk29 gk30 gk31 gk32 gk33 gk34 gk35 gk36 gk37 gk38 gk39 gk40 gk41 gk42 gk43 gk44 gk45 gk46 gk47 gk48 gk49 gk50 gk51 gk52 gk53 gk54 gk55
      clear xs
      simp only [Act.put, List.setIfInBounds_toArray, List.set_cons_zero, List.set_cons_succ]
      go_wp2
      go_ret
      exact ⟨rfl, hE.trans hx.drawn⟩
set_option maxRecDepth 1000000 in
theorem open_more {H : Type} {enc : TypeId × Value → H} {w : World} {base : Nat} {b0 : Nat} {v : Value} {d : DataW H} {p : List MemPlace} (hv : Value.okWide Try.prog w .any b0 61 v) (h : DataW.Trod enc Try.prog w base (fun _ => true) true 61 v d p) :
    ∃ a b c e : Int, v = .agg #[.int .u8 a, .int .u16 b, .int .u16 c, .int .u8 e] ∧ (0 ≤ a ∧ a < 256) ∧ (0 ≤ b ∧ b < 65536) ∧ (0 ≤ c ∧ c < 65536) ∧ (0 ≤ e ∧ e < 256) := by
  obtain ⟨l, xs, m, rfl, hl, rfl, _, _, hf⟩ := open_struct Try.underlying61 hv h
  rw [show Try.prog.cellsOf 61 = 4 by kernel_rfl] at hl
  match l, hl with
  | [x0, x1, x2, x3], _ =>
  obtain ⟨_, _, t0⟩ := hf 0 _ rfl
  obtain ⟨_, _, t1⟩ := hf 1 _ rfl
  obtain ⟨_, _, t2⟩ := hf 2 _ rfl
  obtain ⟨_, _, t3⟩ := hf 3 _ rfl
  obtain ⟨a, e0, _, w0⟩ := DataW.trod_int Try.underlying5 t0
  obtain ⟨b, e1, _, w1⟩ := DataW.trod_int Try.underlying43 t1
  obtain ⟨c, e2, _, w2⟩ := DataW.trod_int Try.underlying43 t2
  obtain ⟨e, e3, _, w3⟩ := DataW.trod_int Try.underlying5 t3
  simp [show Try.prog.cellsOf 5 = 1 by kernel_rfl, show Try.prog.cellsOf 43 = 1 by kernel_rfl] at e0 e1 e2 e3
  subst e0 e1 e2 e3
  exact ⟨a, b, c, e, rfl, wf_u8 w0, wf_u16 w1, wf_u16 w2, wf_u8 w3⟩
set_option maxRecDepth 100000 in
theorem CellMore_lifted (os : Os) (started : os.Started) (H : Type) (enc : TypeId × Value → H) :
    ReturnsInHanded {} Try.checked os 8 .any (Rows.cellMoreSpec.pre6 enc Try.prog Try.f8 Rows.cellMoreRow.domain false) (Rows.cellMoreSpec.post enc Try.prog Try.f8 false true false false) := by
  refine law_row os started H enc Rows.cellMoreSpec rfl (fun ds h => by
    match ds, h with
    | [_], _ => rfl) (by kernel_rfl) Try.func8 rfl
    (by rw [Try.params8]; intro t ht; simp at ht; subst ht; exact ⟨by kernel_rfl, of_decide_eq_true (by kernel_rfl)⟩)
    (ChangeSpec.witness6 (enc := enc) (C := Try.checked) false ⟨#[], #[.agg #[.int .u8 0, .int .u16 0, .int .u16 0, .int .u8 0]], []⟩ 8 (by kernel_rfl) (by kernel_rfl) (by kernel_rfl) (by kernel_rfl)) ?_
  intro W base args ds ps hval hA hlt
  rw [Try.params8] at hA hval
  obtain ⟨v0, d0, rfl, rfl, h0⟩ := trodAll_one hA
  obtain ⟨a, b, c, e, rfl, h1, h2, h3, h4⟩ := open_more (hval 0 _ v0 rfl rfl) h0
  obtain ⟨tn, rfl⟩ := Int.eq_ofNat_of_zero_le h1.1
  obtain ⟨cn, rfl⟩ := Int.eq_ofNat_of_zero_le h2.1
  obtain ⟨rn, rfl⟩ := Int.eq_ofNat_of_zero_le h3.1
  obtain ⟨fn, rfl⟩ := Int.eq_ofNat_of_zero_le h4.1
  exact more_walk tn cn rn fn (by omega) (by omega) (by omega) (by omega) W
theorem CellMore_holds : Rows.CellMoreSaid :=
  OpenClaim.holds_of_wide 8 Try.f8 rfl rfl rfl rfl rfl rfl rfl ⟨rfl, rfl, rfl, rfl, rfl⟩ rfl rfl rfl rfl rfl (by kernel_rfl) Try.func8 (by kernel_rfl)
    (of_decide_eq_true (by kernel_rfl)) (by unfold Func.isWrapper; rw [if_neg (of_decide_eq_false (by kernel_rfl))]; exact ⟨rfl, rfl⟩)
    (fun os started H enc _ => CellMore_lifted os started H enc)
#print axioms CellMore_holds
end Go.Proofs.Ythgcpfofdbdkpaa
