/- Proved: the law CellApart (no two places are the same: those that all share, pins, and records' words; each is one of the memory's, and all of these are told) returns true at every input and turns none of its arguments. No condition. -/
import Derived.Test.YthgcpfofdbdkpaaShown9
import Derived.Test.YthgcpfofdbdkpaaLift
import Derived.Test.YthgcpfofdbdkpaaAggs
import Derived.Deep.CutRange
namespace Go.Proofs.Ythgcpfofdbdkpaa
open Go.ChangeShapes Go.WideShapes Go.ChangeAt Go.RowKit

theorem pin_nat (i : Nat) (hi : i ≤ 64) (w : World) :
    Calls Try.prog 27 #[.int .i64 i] w fun e w' => e = .returned (.int .i64 (8 + (i : Int))) ∧ w = w' := pin_any i (by omega) (by omega) w
theorem apart_next (t r : Nat) (h1 : 1 ≤ r) (ht : t ≤ 65) (hr : r ≤ 65536) (w : World) :
    Calls Try.prog 31 #[.int .i64 t, .int .i64 r] w fun e w' => e = .returned (.int .i64 (fieldN t r 0 : Nat)) ∧ w = w' :=
  (next_any t r (by omega) (by omega) (by omega) (by omega) w).mono fun _ _ ⟨he, hw⟩ => ⟨by rw [he]; congr 2; unfold nextF fieldN; rw [if_neg (by omega)]; omega, hw⟩
theorem fieldN_inj {t a b f g : Nat} (ha : 1 ≤ a) (hb : 1 ≤ b) (hf : f < 8) (hg : g < 8) : fieldN t a f = fieldN t b g ↔ (a = b ∧ f = g) := by unfold fieldN; omega
set_option maxRecDepth 100000 in
set_option maxHeartbeats 8000000 in
theorem apart_walk (tn cn im rn fn jn sn gn : Nat) (ht : tn < 256) (hc : cn < 65536) (hi : im < 256) (hr : rn < 65536) (hf : fn < 256) (hj : jn < 256) (hs : sn < 65536) (hg : gn < 256) (w : World) :
    Calls Try.prog 6 #[.agg #[.int .u8 tn, .int .u16 cn, .int .u8 im, .int .u16 rn, .int .u8 fn, .int .u8 jn, .int .u16 sn, .int .u8 gn]] w fun e w' => e = .returned (.bool true) ∧ Ext w w' := by
  have hE : Ext w (w.alloc (.cells #[.int .u8 tn, .int .u16 cn, .int .u8 im, .int .u16 rn, .int .u8 fn, .int .u8 jn, .int .u16 sn, .int .u8 gn] 57)) := (Below.refl _ w).alloc (Nat.le_refl _) _
  have hN : (1 : Int) + (tn : Int) % 64 = ((1 + tn % 64 : Nat) : Int) := by omega
  have hK : (1 : Int) + (cn : Int) % 300 = ((1 + cn % 300 : Nat) : Int) := by omega
  have hN1 : 1 ≤ 1 + tn % 64 ∧ 1 + tn % 64 ≤ 64 := by omega
  have hK1 : 1 ≤ 1 + cn % 300 ∧ 1 + cn % 300 ≤ 300 := by omega
  generalize 1 + tn % 64 = N at *
  generalize 1 + cn % 300 = K at *
  have hX : (1 : Int) + (rn : Int) % (K : Int) = ((1 + rn % K : Nat) : Int) := by rw [← Int.natCast_emod]; omega
  have hY : (1 : Int) + (sn : Int) % (K : Int) = ((1 + sn % K : Nat) : Int) := by rw [← Int.natCast_emod]; omega
  have hX1 : 1 ≤ 1 + rn % K ∧ 1 + rn % K ≤ K := ⟨by omega, by have := Nat.mod_lt rn hK1.1; omega⟩
  have hY1 : 1 ≤ 1 + sn % K ∧ 1 + sn % K ≤ K := ⟨by omega, by have := Nat.mod_lt sn hK1.1; omega⟩
  have hF : (fn : Int) % 8 = ((fn % 8 : Nat) : Int) := by omega
  have hG : (gn : Int) % 8 = ((gn % 8 : Nat) : Int) := by omega
  have hF1 : fn % 8 < 8 := by omega
  have hG1 : gn % 8 < 8 := by omega
  have hI : (im : Int) % (N : Int) = ((im % N : Nat) : Int) := by rw [Int.natCast_emod]
  have hJ : (jn : Int) % (N : Int) = ((jn % N : Nat) : Int) := by rw [Int.natCast_emod]
  have hI1 : im % N < N := Nat.mod_lt im hN1.1
  have hJ1 : jn % N < N := Nat.mod_lt jn hN1.1
  generalize 1 + rn % K = X at *
  generalize 1 + sn % K = Y at *
  generalize fn % 8 = F at *
  generalize gn % 8 = G at *
  generalize im % N = I at *
  generalize jn % N = J at *
  obtain ⟨n1, n2⟩ := hN1
  obtain ⟨k1, k2⟩ := hK1
  obtain ⟨x1, x2⟩ := hX1
  obtain ⟨y1, y2⟩ := hY1
  go_enter Try.func6, Try.ntmps6
  go_wp2_with (first
    | (go_at_call 21; refine (shown9_any _).mono ?_; rintro e w1 ⟨rfl, hx1⟩; have c0 := hx1.cell (p := ⟨w.heap.size, 0, none⟩) (v := .int .u8 tn) (by simp [go_sem]); replace hE := hE.trans hx1; clear hx1))
  have HN := Lib.hid hN
  have HK := Lib.hid hK
  clear hN hK c0
  refine (new_yes N K n1 (by omega) (by omega) _).mono ?_
  rintro e w2 ⟨ga, rfl, _, hrow, hx2⟩
  have ma := MemBox.new (t := N) (c := K) hrow
  have hw2 : Ext w2 (w2.alloc (.cells #[.int .i64 N, .int .i64 K, .slice (some ⟨ga, 0, none⟩) (memL N K) (memL N K)] 42)) := (Below.refl _ w2).alloc (Nat.le_refl _) _
  replace hE := (hE.trans hx2).trans hw2
  clear hx2 hw2 hrow
  go_upto_region 13 with (fail)
  generalize w2.alloc (.cells #[.int .i64 N, .int .i64 K, .slice (some ⟨ga, 0, none⟩) (memL N K) (memL N K)] 42) = W2 at *
  generalize w2.heap.size = ba at *
  have fx : ∀ W, Calls Try.prog 29 #[.int .i64 N, .int .i64 X, .int .i64 F] W fun e w' => e = .returned (.int .i64 (fieldN N X F : Nat)) ∧ W = w' := fun W => field_nat N X F x1 (by omega) (by omega) (by omega) W
  have fy : ∀ W, Calls Try.prog 29 #[.int .i64 N, .int .i64 Y, .int .i64 G] W fun e w' => e = .returned (.int .i64 (fieldN N Y G : Nat)) ∧ W = w' := fun W => field_nat N Y G y1 (by omega) (by omega) (by omega) W
  have f0 : ∀ W, Calls Try.prog 29 #[.int .i64 N, .int .i64 X, .int .i64 0] W fun e w' => e = .returned (.int .i64 (fieldN N X 0 : Nat)) ∧ W = w' := fun W => field_nat N X 0 x1 (by omega) (by omega) (by omega) W
  have fn0 : ∀ W, Calls Try.prog 31 #[.int .i64 N, .int .i64 X] W fun e w' => e = .returned (.int .i64 (fieldN N X 0 : Nat)) ∧ W = w' := fun W => apart_next N X x1 (by omega) (by omega) W
  have fz : ∀ W, Calls Try.prog 29 #[.int .i64 N, .int .i64 K, .int .i64 7] W fun e w' => e = .returned (.int .i64 ((memL N K : Nat) - 1 : Int)) ∧ W = w' := fun W =>
    (field_nat N K 7 k1 (by omega) (by omega) (by omega) W).mono fun _ _ ⟨he, hw⟩ => ⟨by rw [he]; congr 2; unfold fieldN memL; omega, hw⟩
  have f1 : ∀ W, Calls Try.prog 29 #[.int .i64 N, .int .i64 1, .int .i64 0] W fun e w' => e = .returned (.int .i64 (8 + (N : Int))) ∧ W = w' := fun W =>
    (field_any N 1 0 (by omega) (by omega) (by omega) (by omega) (by omega) (by omega) W).mono fun _ _ ⟨he, hw⟩ => ⟨by rw [he, show (8 + (N : Int) + 8 * (1 - 1) + 0) = 8 + (N : Int) by omega], hw⟩
  have fI : ∀ W, Calls Try.prog 27 #[.int .i64 I] W fun e w' => e = .returned (.int .i64 (8 + (I : Int))) ∧ W = w' := fun W => pin_nat I (by omega) W
  have fJ : ∀ W, Calls Try.prog 27 #[.int .i64 J] W fun e w' => e = .returned (.int .i64 (8 + (J : Int))) ∧ W = w' := fun W => pin_nat J (by omega) W
  have lx : fieldN N X F < memL N K := fieldN_lt x1 x2 hF1
  have lx8 : (8 : Int) + (N : Int) ≤ (fieldN N X F : Nat) := by unfold fieldN; omega
  have hLm : memL N K ≤ 100000 := by unfold memL; omega
  have hL1 : 1 ≤ memL N K := by unfold memL; omega
  have hright : rightM (N : Int) (K : Int) (memL N K) = true := by simp only [rightM, mayB_of (show 1 ≤ (N : Int) ∧ (N : Int) ≤ 64 ∧ 0 ≤ (K : Int) ∧ (K : Int) ≤ 65536 by omega), Bool.true_and, beq_iff_eq]; unfold memL; omega
  have hcase : (((X : Int) == (Y : Int)) = true ∧ ((F : Int) == (G : Int)) = true ∧ (((fieldN N X F : Nat) : Int) == ((fieldN N Y G : Nat) : Int)) = true) ∨ (((X : Int) == (Y : Int)) = true ∧ ((F : Int) == (G : Int)) = false ∧ (((fieldN N X F : Nat) : Int) == ((fieldN N Y G : Nat) : Int)) = false) ∨
      (((X : Int) == (Y : Int)) = false ∧ True ∧ (((fieldN N X F : Nat) : Int) == ((fieldN N Y G : Nat) : Int)) = false) := by
    have h := @fieldN_inj N X Y F G x1 y1 hF1 hG1
    by_cases h1 : X = Y
    · by_cases h2 : F = G
      · exact .inl ⟨by simp; omega, by simp; omega, by simp; omega⟩
      · exact .inr (.inl ⟨by simp; omega, by simp; omega, by simp; omega⟩)
    · exact .inr (.inr ⟨by simp; omega, trivial, by simp; omega⟩)
  obtain ⟨m0, m1, m2, -⟩ := ma
  generalize fieldN N X F = px at *
  generalize fieldN N Y G = py at *
  generalize fieldN N X 0 = p0 at *
  generalize memL N K = L at *
  have hpx1 : ((8 + (I : Int)) == (px : Int)) = false := by simp; omega
  have hpx2 : ((8 + (I : Int)) != (px : Int)) = true := by simp; omega
  have hpq : ((8 + (I : Int)) == (8 + (J : Int))) = ((I : Int) == (J : Int)) := by rw [Bool.eq_iff_iff]; simp
  go_upto_region 19 with (first
    | (go_at_call 29; (try rw [hF]); (try rw [hG]); (first | (with_reducible refine (fx _).mono ?_) | (with_reducible refine (fy _).mono ?_)); rintro e w' ⟨rfl, rfl⟩)
    | (go_at_call 27; (try rw [hI]); (try rw [hJ]); (first | (with_reducible refine (fI _).mono ?_) | (with_reducible refine (fJ _).mono ?_)); rintro e w' ⟨rfl, rfl⟩))
  have hI2 : (im : Int).tmod (N : Int) = (I : Int) := by rw [Int.tmod_eq_emod_of_nonneg (by omega)]; exact hI
  have hJ2 : (jn : Int).tmod (N : Int) = (J : Int) := by rw [Int.tmod_eq_emod_of_nonneg (by omega)]; exact hJ
  have hN0 : ¬ N = 0 := by omega
  have h8 : (8 : Int) ≤ 8 + (I : Int) := by omega
  have h9 : 8 + (I : Int) < 8 + (N : Int) := by omega
  have hwi : IntKind.i64.wrap (im : Int) = (im : Int) := by rw [IntKind.wrap_i64]; omega
  have hwj : IntKind.i64.wrap (jn : Int) = (jn : Int) := by rw [IntKind.wrap_i64]; omega
  have hwN : IntKind.i64.wrap (8 + (N : Int)) = 8 + (N : Int) := by rw [IntKind.wrap_i64]; omega
  have hwL : IntKind.i64.wrap ((L : Int) - 1) = (L : Int) - 1 := by rw [IntKind.wrap_i64]; omega
  have hall : ∀ wx, Ext W2.drew wx → wx.cell? ⟨ba, 0, none⟩ = some (.int .i64 N) ∧ wx.cell? ⟨ba, 1, none⟩ = some (.int .i64 K) ∧ wx.cell? ⟨ba, 2, none⟩ = some (.slice (some ⟨ga, 0, none⟩) L L) := fun wx hx => ⟨hx.drawn.cell m0, hx.drawn.cell m1, hx.drawn.cell m2⟩
  clear m0 m1 m2 fx fy fI fJ hI hJ hX hY
  rcases hcase with ⟨hXY, hFG, hxy⟩ | ⟨hXY, hFG, hxy⟩ | ⟨hXY, -, hxy⟩
  all_goals
    cases hIJ : ((I : Int) == (J : Int))
    all_goals
      rw [hIJ] at hpq
      go_wp2_with fail
      refine' wp_region_sure_all ⟨((some 98, [], none) :: (some 99, [0], none) :: (some 100, [1], some (1, true)) :: (some 101, [2, 1], some (1, true)) :: (some 102, [1, 3], none) :: (some 103, [4, 1], none) :: (some 104, [5], some (5, true)) :: (some 105, [6, 5, 5], some (5, true)) :: (some 106, [5, 7], none) :: (some 107, [8, 7], none) :: (some 108, [9], some (9, true)) :: (some 109, [9], some (9, true)) :: (some 110, [10, 11, 9], some (9, true)) :: (some 111, [9], some (9, true)) :: (some 112, [12, 13, 9], some (9, true)) :: (some 113, [9, 14], none) :: (some 114, [15, 9], none) :: (some 115, [16], some (16, true)) :: (some 116, [16], some (16, true)) :: (some 117, [17, 18, 16], some (16, true)) :: (some 118, [16], some (16, true)) :: (some 119, [20, 16], some (16, true)) :: (some 120, [16], some (16, true)) :: (some 121, [21, 22, 16], some (16, true)) :: (some 122, [16], some (16, true)) :: (some 123, [24, 16], some (16, true)) :: (some 124, [16], some (16, true)) :: (some 125, [25, 26, 16], some (16, true)) :: (some 126, [23, 27, 16], some (16, true)) :: (some 127, [19, 28, 16], some (16, true)) :: (some 128, [16, 29], none) :: (some 129, [30, 16], none) :: (some 130, [31], some (31, true)) :: (some 131, [31], some (31, true)) :: (some 132, [32, 33, 31], some (31, true)) :: (some 133, [31, 34], none) :: (some 134, [35, 31], none) :: (some 135, [36], some (36, true)) :: (some 136, [37, 36], some (36, true)) :: (some 137, [36, 38], none) :: (some 138, [39, 36], none) :: (some 139, [40], some (40, true)) :: (some 140, [40], some (40, true)) :: (some 141, [42, 40], some (40, true)) :: (some 142, [41, 43, 40], some (40, true)) :: (some 143, [40, 44], none) :: (some 144, [45, 40], none) :: (some 145, [46], some (46, true)) :: (some 146, [46], some (46, true)) :: (some 147, [48, 46], some (46, true)) :: (some 148, [47, 49, 46], some (46, true)) :: (some 149, [46, 50], none) :: (some 150, [51, 46], none) :: (some 151, [52], some (52, true)) :: (some 152, [52], some (52, true)) :: (some 153, [54, 52], some (52, true)) :: (some 154, [55, 52], some (52, true)) :: (some 155, [53, 56, 52], some (52, true)) :: (some 156, [52, 57], none) :: (some 157, [58, 52], none) :: (some 158, [59], some (59, true)) :: (some 159, [59], some (59, true)) :: (some 160, [60, 61, 59, 59], some (59, true)) :: (some 161, [59], some (59, true)) :: (some 162, [59], some (59, true)) :: (some 163, [63, 64, 62, 59], some (59, true)) :: (some 164, [62, 65, 59], some (59, true)) :: (some 165, [59, 66], none) :: (some 166, [67, 65], none) :: (some 167, [68], some (68, true)) :: (some 168, [68], some (68, true)) :: (some 169, [69, 70, 68, 68], some (68, true)) :: (some 170, [68], some (68, true)) :: (some 171, [72, 68], some (68, true)) :: (some 172, [73, 68], some (68, true)) :: (some 173, [74, 68], some (68, true)) :: (some 174, [71, 75, 68], some (68, true)) :: (some 175, [68, 76], none) :: (some 176, [77, 71], none) :: (some 177, [78], some (78, true)) :: (some 178, [79, 78, 78], some (78, true)) :: (some 179, [78], some (78, true)) :: (some 180, [81, 78], some (78, true)) :: (some 181, [80, 82, 78], some (78, true)) :: (some 182, [78, 83], none) :: (some 2, [84, 80, 0, 1, 2, 3, 4, 5, 6, 7, 8, 9, 10, 11, 12, 13, 14, 15, 16, 17, 18, 19, 20, 21, 22, 23, 24, 25, 26, 27, 28, 29, 30, 31, 32, 33, 34, 35, 36, 37, 38, 39, 40, 41, 42, 43, 44, 45, 46, 47, 48, 49, 50, 51, 52, 53, 54, 55, 56, 57, 58, 59, 60, 61, 62, 63, 64, 65, 66, 67, 68, 69, 70, 71, 72, 73, 74, 75, 76, 77, 78, 79, 80, 81, 82, 83, 84], none) :: []), (0 :: 1 :: 3 :: 7 :: 15 :: 31 :: 63 :: 127 :: 255 :: 511 :: 1023 :: 1023 :: 4095 :: 1023 :: 16383 :: 32767 :: 65535 :: 131071 :: 131071 :: 524287 :: 131071 :: 1179647 :: 131071 :: 7471103 :: 131071 :: 16908287 :: 131071 :: 117571583 :: 267517951 :: 536870911 :: 1073741823 :: 2147483647 :: 4294967295 :: 4294967295 :: 17179869183 :: 34359738367 :: 68719476735 :: 137438953471 :: 274877906943 :: 549755813887 :: 1099511627775 :: 2199023255551 :: 2199023255551 :: 6597069766655 :: 17592186044415 :: 35184372088831 :: 70368744177663 :: 140737488355327 :: 140737488355327 :: 422212465065983 :: 1125899906842623 :: 2251799813685247 :: 4503599627370495 :: 9007199254740991 :: 9007199254740991 :: 27021597764222975 :: 63050394783186943 :: 144115188075855871 :: 288230376151711743 :: 576460752303423487 :: 1152921504606846975 :: 1152921504606846975 :: 4611686018427387903 :: 1152921504606846975 :: 1152921504606846975 :: 36893488147419103231 :: 73786976294838206463 :: 147573952589676412927 :: 295147905179352825855 :: 590295810358705651711 :: 590295810358705651711 :: 2361183241434822606847 :: 590295810358705651711 :: 5312662293228350865407 :: 14757395258967641292799 :: 33646861190446222147583 :: 75557863725914323419135 :: 151115727451828646838271 :: 302231454903657293676543 :: 604462909807314587353087 :: 1208925819614629174706175 :: 604462909807314587353087 :: 3022314549036572936765439 :: 9671406556917033397649407 :: 19342813113834066795298815 :: 38685626227668133590597631 :: []), (true :: true :: true :: true :: true :: true :: true :: true :: true :: true :: true :: true :: true :: true :: true :: true :: true :: true :: true :: true :: true :: true :: true :: true :: true :: true :: true :: true :: true :: true :: true :: true :: true :: true :: true :: true :: true :: true :: true :: true :: true :: true :: true :: true :: true :: true :: true :: true :: true :: true :: true :: true :: true :: true :: true :: true :: true :: true :: true :: true :: true :: true :: true :: true :: true :: true :: true :: true :: true :: true :: true :: true :: true :: true :: true :: true :: true :: true :: true :: true :: true :: true :: true :: true :: true :: true :: []), [], 0⟩ 86 183 ((0, 98) :: (1, 99) :: (2, 100) :: (3, 101) :: (4, 102) :: (5, 103) :: (6, 104) :: (7, 105) :: (8, 106) :: (9, 107) :: (10, 108) :: (11, 109) :: (12, 110) :: (13, 111) :: (14, 112) :: (15, 113) :: (16, 114) :: (17, 115) :: (18, 116) :: (19, 117) :: (20, 118) :: (21, 119) :: (22, 120) :: (23, 121) :: (24, 122) :: (25, 123) :: (26, 124) :: (27, 125) :: (28, 126) :: (29, 127) :: (30, 128) :: (31, 129) :: (32, 130) :: (33, 131) :: (34, 132) :: (35, 133) :: (36, 134) :: (37, 135) :: (38, 136) :: (39, 137) :: (40, 138) :: (41, 139) :: (42, 140) :: (43, 141) :: (44, 142) :: (45, 143) :: (46, 144) :: (47, 145) :: (48, 146) :: (49, 147) :: (50, 148) :: (51, 149) :: (52, 150) :: (53, 151) :: (54, 152) :: (55, 153) :: (56, 154) :: (57, 155) :: (58, 156) :: (59, 157) :: (60, 158) :: (61, 159) :: (62, 160) :: (63, 161) :: (64, 162) :: (65, 163) :: (66, 164) :: (67, 165) :: (68, 166) :: (69, 167) :: (70, 168) :: (71, 169) :: (72, 170) :: (73, 171) :: (74, 172) :: (75, 173) :: (76, 174) :: (77, 175) :: (78, 176) :: (79, 177) :: (80, 178) :: (81, 179) :: (82, 180) :: (83, 181) :: (84, 182) :: (85, 2) :: []) ((0, 98) :: (1, 99) :: (2, 100) :: (3, 101) :: (4, 102) :: (5, 103) :: (6, 104) :: (7, 105) :: (8, 106) :: (9, 107) :: (10, 108) :: (11, 109) :: (12, 110) :: (13, 111) :: (14, 112) :: (15, 113) :: (16, 114) :: (17, 115) :: (18, 116) :: (19, 117) :: (20, 118) :: (21, 119) :: (22, 120) :: (23, 121) :: (24, 122) :: (25, 123) :: (26, 124) :: (27, 125) :: (28, 126) :: (29, 127) :: (30, 128) :: (31, 129) :: (32, 130) :: (33, 131) :: (34, 132) :: (35, 133) :: (36, 134) :: (37, 135) :: (38, 136) :: (39, 137) :: (40, 138) :: (41, 139) :: (42, 140) :: (43, 141) :: (44, 142) :: (45, 143) :: (46, 144) :: (47, 145) :: (48, 146) :: (49, 147) :: (50, 148) :: (51, 149) :: (52, 150) :: (53, 151) :: (54, 152) :: (55, 153) :: (56, 154) :: (57, 155) :: (58, 156) :: (59, 157) :: (60, 158) :: (61, 159) :: (62, 160) :: (63, 161) :: (64, 162) :: (65, 163) :: (66, 164) :: (67, 165) :: (68, 166) :: (69, 167) :: (70, 168) :: (71, 169) :: (72, 170) :: (73, 171) :: (74, 172) :: (75, 173) :: (76, 174) :: (77, 175) :: (78, 176) :: (79, 177) :: (80, 178) :: (81, 179) :: (82, 180) :: (83, 181) :: (84, 182) :: (85, 2) :: []) (.det _ :: .det _ :: .det _ :: .det _ :: .det _ :: .det _ :: .det _ :: .det _ :: .det _ :: .det _ :: .det _ :: .det _ :: .det _ :: .det _ :: .det _ :: .det _ :: .det _ :: .det _ :: .det _ :: .det _ :: .det _ :: .det _ :: .det _ :: .det _ :: .det _ :: .det _ :: .det _ :: .det _ :: .det _ :: .det _ :: .det _ :: .det _ :: .det _ :: .det _ :: .det _ :: .det _ :: .det _ :: .det _ :: .det _ :: .det _ :: .det _ :: .det _ :: .det _ :: .det _ :: .det _ :: .det _ :: .det _ :: .det _ :: .det _ :: .det _ :: .det _ :: .det _ :: .det _ :: .det _ :: .det _ :: .det _ :: .det _ :: .det _ :: .det _ :: .det _ :: .det _ :: .det _ :: .det _ :: .det _ :: .det _ :: .det _ :: .det _ :: .det _ :: .det _ :: .det _ :: .det _ :: .det _ :: .det _ :: .det _ :: .det _ :: .det _ :: .det _ :: .det _ :: .det _ :: .det _ :: .det _ :: .det _ :: .det _ :: .det _ :: .det _ :: .det _ :: []) (by kernel_rfl) (by kernel_rfl) (by kernel_rfl) rfl (by kernel_rfl) (by kernel_rfl) rfl (by kernel_rfl) ?hone ?hend
      case hone =>
        intro CS frS VS hCS ha hV
        have qs5 := slot_val (t := 5) ha rfl
        simp only [List.getElem_toArray, List.getElem_cons_succ, List.getElem_cons_zero] at qs5
        have qs8 := slot_val (t := 8) ha rfl
        simp only [List.getElem_toArray, List.getElem_cons_succ, List.getElem_cons_zero] at qs8
        have qs11 := slot_val (t := 11) ha rfl
        simp only [List.getElem_toArray, List.getElem_cons_succ, List.getElem_cons_zero] at qs11
        have qs12 := slot_val (t := 12) ha rfl
        simp only [List.getElem_toArray, List.getElem_cons_succ, List.getElem_cons_zero] at qs12
        have qs13 := slot_val (t := 13) ha rfl
        simp only [List.getElem_toArray, List.getElem_cons_succ, List.getElem_cons_zero] at qs13
        have qs14 := slot_val (t := 14) ha rfl
        simp only [List.getElem_toArray, List.getElem_cons_succ, List.getElem_cons_zero] at qs14
        have qs15 := slot_val (t := 15) ha rfl
        simp only [List.getElem_toArray, List.getElem_cons_succ, List.getElem_cons_zero] at qs15
        have qs16 := slot_val (t := 16) ha rfl
        simp only [List.getElem_toArray, List.getElem_cons_succ, List.getElem_cons_zero] at qs16
        have qs18 := slot_val (t := 18) ha rfl
        simp only [List.getElem_toArray, List.getElem_cons_succ, List.getElem_cons_zero] at qs18
        have qs19 := slot_val (t := 19) ha rfl
        simp only [List.getElem_toArray, List.getElem_cons_succ, List.getElem_cons_zero] at qs19
        have qs20 := slot_val (t := 20) ha rfl
        simp only [List.getElem_toArray, List.getElem_cons_succ, List.getElem_cons_zero] at qs20
        have qs21 := slot_val (t := 21) ha rfl
        simp only [List.getElem_toArray, List.getElem_cons_succ, List.getElem_cons_zero] at qs21
        have qs22 := slot_val (t := 22) ha rfl
        simp only [List.getElem_toArray, List.getElem_cons_succ, List.getElem_cons_zero] at qs22
        have HCS := Lib.hid hCS
        have HVS := Lib.hid hV
        clear ha hCS hV
        -- 0: slot 98 := Op.move t11
        refine sure_det (js := []) (ts := [11]) (gd := none) (place_at HVS.out (k := 0) rfl) (by rw [HCS.out]; kernel_rfl) ?_ ?_
        · intro wx hx ρ hρ hs hf
          have hρc := hρ.const
          have hρf := hρ.func
          obtain ⟨fx11, -⟩ := hf
          rw [qs11] at fx11
          clear hs
          clear HCS HVS qs5 qs8 qs11 qs12 qs13 qs14 qs15 qs16 qs18 qs19 qs20 qs21 qs22
          refine run_plain ?_
          refine op_move rfl fx11 ?_
          exact detK.mk
        -- 1: slot 99 := Op.move t98
        refine sure_det (js := [(0, 98)]) (ts := []) (gd := none) (place_at HVS.out (k := 1) rfl) (by rw [HCS.out]; kernel_rfl) ?_ ?_
        · intro wx hx ρ hρ hs hf
          have hρc := hρ.const
          have hρf := hρ.func
          obtain ⟨sn0, -⟩ := hs
          rw [place_at HVS.out (k := 0) rfl] at sn0
          replace sn0 : ρ (.tmp 98) = _ := sn0
          clear hf
          clear HCS HVS qs5 qs8 qs11 qs12 qs13 qs14 qs15 qs16 qs18 qs19 qs20 qs21 qs22
          refine run_plain ?_
          refine op_move rfl sn0 ?_
          exact detK.mk
        -- 2: slot 100 := Op.move t15
        refine sure_det (js := [(1, 99)]) (ts := [15]) (gd := (some (99, true))) (place_at HVS.out (k := 2) rfl) (by rw [HCS.out]; kernel_rfl) ?_ ?_
        · intro wx hx ρ hρ hs hf
          have hρc := hρ.const
          have hρf := hρ.func
          obtain ⟨sn1, -⟩ := hs
          obtain ⟨fx15, -⟩ := hf
          rw [qs15] at fx15
          rw [place_at HVS.out (k := 1) rfl] at sn1
          replace sn1 : ρ (.tmp 99) = _ := sn1
          clear HCS HVS qs5 qs8 qs11 qs12 qs13 qs14 qs15 qs16 qs18 qs19 qs20 qs21 qs22
          first
            | (refine run_passed sn1 ?_
               exact detK.mk)
            | (refine run_guarded sn1 ?_
               refine op_move rfl fx15 ?_
               exact detK.mk)
        -- 3: slot 101 := Op.binOp BinOp.eql 31 t100 ((i64 0)) 31
        refine sure_det (js := [(2, 100), (1, 99)]) (ts := []) (gd := (some (99, true))) (place_at HVS.out (k := 3) rfl) (by rw [HCS.out]; kernel_rfl) ?_ ?_
        · intro wx hx ρ hρ hs hf
          have hρc := hρ.const
          have hρf := hρ.func
          obtain ⟨sn2, sn1, -⟩ := hs
          rw [place_at HVS.out (k := 2) rfl] at sn2
          replace sn2 : ρ (.tmp 100) = _ := sn2
          rw [place_at HVS.out (k := 1) rfl] at sn1
          replace sn1 : ρ (.tmp 99) = _ := sn1
          clear hf
          clear HCS HVS qs5 qs8 qs11 qs12 qs13 qs14 qs15 qs16 qs18 qs19 qs20 qs21 qs22
          first
            | (refine run_passed sn1 ?_
               exact detK.mk)
            | (refine run_guarded sn1 ?_
               unfold runs
               go_simp
               exact detK.mk)
        -- 4: slot 102 := Op.pick t99 t101 ((Value.bool false))
        refine sure_det (js := [(1, 99), (3, 101)]) (ts := []) (gd := none) (place_at HVS.out (k := 4) rfl) (by rw [HCS.out]; kernel_rfl) ?_ ?_
        · intro wx hx ρ hρ hs hf
          have hρc := hρ.const
          have hρf := hρ.func
          obtain ⟨sn1, sn3, -⟩ := hs
          rw [place_at HVS.out (k := 1) rfl] at sn1
          replace sn1 : ρ (.tmp 99) = _ := sn1
          rw [place_at HVS.out (k := 3) rfl] at sn3
          replace sn3 : ρ (.tmp 101) = _ := sn3
          clear hf
          clear HCS HVS qs5 qs8 qs11 qs12 qs13 qs14 qs15 qs16 qs18 qs19 qs20 qs21 qs22
          refine run_plain ?_
          first | refine op_pick_t rfl sn1 sn3 ?_ | refine op_pick_f rfl sn1 (hρ.const _) ?_
          exact detK.mk
        -- 5: slot 103 := Op.move t102
        refine sure_det (js := [(4, 102)]) (ts := []) (gd := none) (place_at HVS.out (k := 5) rfl) (by rw [HCS.out]; kernel_rfl) ?_ ?_
        · intro wx hx ρ hρ hs hf
          have hρc := hρ.const
          have hρf := hρ.func
          obtain ⟨sn4, -⟩ := hs
          rw [place_at HVS.out (k := 4) rfl] at sn4
          replace sn4 : ρ (.tmp 102) = _ := sn4
          clear hf
          clear HCS HVS qs5 qs8 qs11 qs12 qs13 qs14 qs15 qs16 qs18 qs19 qs20 qs21 qs22
          refine run_plain ?_
          refine op_move rfl sn4 ?_
          exact detK.mk
        -- 6: slot 104 := Op.load 42 t14
        refine sure_det (js := [(5, 103)]) (ts := [14]) (gd := (some (103, true))) (place_at HVS.out (k := 6) rfl) (by rw [HCS.out]; kernel_rfl) ?_ ?_
        · intro wx hx ρ hρ hs hf
          have hρc := hρ.const
          have hρf := hρ.func
          obtain ⟨sn5, -⟩ := hs
          obtain ⟨fx14, -⟩ := hf
          rw [qs14] at fx14
          rw [place_at HVS.out (k := 5) rfl] at sn5
          replace sn5 : ρ (.tmp 103) = _ := sn5
          clear HCS HVS qs5 qs8 qs11 qs12 qs13 qs14 qs15 qs16 qs18 qs19 qs20 qs21 qs22
          first
            | (refine run_passed sn5 ?_
               exact detK.mk)
            | (refine run_guarded sn5 ?_
               obtain ⟨m0, m1, m2⟩ := hall wx hx
               unfold runs
               go_simp
               exact detK.mk)
        -- 7: slot 105 := Op.call { call ( 25), args := #[t104], argTypes := #[42] }
        refine sure_det (js := [(6, 104), (5, 103)]) (ts := []) (gd := (some (103, true))) (place_at HVS.out (k := 7) rfl) (by rw [HCS.out]; kernel_rfl) ?_ ?_
        · intro wx hx ρ hρ hs hf
          have hρc := hρ.const
          have hρf := hρ.func
          obtain ⟨sn6, sn5, -⟩ := hs
          rw [place_at HVS.out (k := 6) rfl] at sn6
          replace sn6 : ρ (.tmp 104) = _ := sn6
          rw [place_at HVS.out (k := 5) rfl] at sn5
          replace sn5 : ρ (.tmp 103) = _ := sn5
          clear hf
          clear HCS HVS qs5 qs8 qs11 qs12 qs13 qs14 qs15 qs16 qs18 qs19 qs20 qs21 qs22
          first
            | (refine run_passed sn5 ?_
               exact detK.mk)
            | (refine run_guarded sn5 ?_
               refine op_call rfl hρ Try.call25 (map_one sn6) ?_
               first | ((with_reducible refine Calls.mono (cright_any _ _ _ _ _ _) ?_); rw [hright]; rintro e w' ⟨rfl, hx5⟩; refine ⟨_, rfl, ?_⟩; exact detK.ext hx5) | ((with_reducible refine Calls.mono (f0 _) ?_); rintro e w' ⟨rfl, rfl⟩; refine ⟨_, rfl, ?_⟩; exact detK.mk) | ((with_reducible refine Calls.mono (fn0 _) ?_); rintro e w' ⟨rfl, rfl⟩; refine ⟨_, rfl, ?_⟩; exact detK.mk) | ((with_reducible refine Calls.mono (fz _) ?_); rintro e w' ⟨rfl, rfl⟩; refine ⟨_, rfl, ?_⟩; exact detK.mk) | ((with_reducible refine Calls.mono (f1 _) ?_); rintro e w' ⟨rfl, rfl⟩; refine ⟨_, rfl, ?_⟩; exact detK.mk))
        -- 8: slot 106 := Op.pick t103 t105 ((Value.bool false))
        refine sure_det (js := [(5, 103), (7, 105)]) (ts := []) (gd := none) (place_at HVS.out (k := 8) rfl) (by rw [HCS.out]; kernel_rfl) ?_ ?_
        · intro wx hx ρ hρ hs hf
          have hρc := hρ.const
          have hρf := hρ.func
          obtain ⟨sn5, sn7, -⟩ := hs
          rw [place_at HVS.out (k := 5) rfl] at sn5
          replace sn5 : ρ (.tmp 103) = _ := sn5
          rw [place_at HVS.out (k := 7) rfl] at sn7
          replace sn7 : ρ (.tmp 105) = _ := sn7
          clear hf
          clear HCS HVS qs5 qs8 qs11 qs12 qs13 qs14 qs15 qs16 qs18 qs19 qs20 qs21 qs22
          refine run_plain ?_
          first | refine op_pick_t rfl sn5 sn7 ?_ | refine op_pick_f rfl sn5 (hρ.const _) ?_
          exact detK.mk
        -- 9: slot 107 := Op.move t106
        refine sure_det (js := [(8, 106)]) (ts := []) (gd := none) (place_at HVS.out (k := 9) rfl) (by rw [HCS.out]; kernel_rfl) ?_ ?_
        · intro wx hx ρ hρ hs hf
          have hρc := hρ.const
          have hρf := hρ.func
          obtain ⟨sn8, -⟩ := hs
          rw [place_at HVS.out (k := 8) rfl] at sn8
          replace sn8 : ρ (.tmp 106) = _ := sn8
          clear hf
          clear HCS HVS qs5 qs8 qs11 qs12 qs13 qs14 qs15 qs16 qs18 qs19 qs20 qs21 qs22
          refine run_plain ?_
          refine op_move rfl sn8 ?_
          exact detK.mk
        -- 10: slot 108 := Op.move t18
        refine sure_det (js := [(9, 107)]) (ts := [18]) (gd := (some (107, true))) (place_at HVS.out (k := 10) rfl) (by rw [HCS.out]; kernel_rfl) ?_ ?_
        · intro wx hx ρ hρ hs hf
          have hρc := hρ.const
          have hρf := hρ.func
          obtain ⟨sn9, -⟩ := hs
          obtain ⟨fx18, -⟩ := hf
          rw [qs18] at fx18
          rw [place_at HVS.out (k := 9) rfl] at sn9
          replace sn9 : ρ (.tmp 107) = _ := sn9
          clear HCS HVS qs5 qs8 qs11 qs12 qs13 qs14 qs15 qs16 qs18 qs19 qs20 qs21 qs22
          first
            | (refine run_passed sn9 ?_
               exact detK.mk)
            | (refine run_guarded sn9 ?_
               refine op_move rfl fx18 ?_
               exact detK.mk)
        -- 11: slot 109 := Op.move t19
        refine sure_det (js := [(9, 107)]) (ts := [19]) (gd := (some (107, true))) (place_at HVS.out (k := 11) rfl) (by rw [HCS.out]; kernel_rfl) ?_ ?_
        · intro wx hx ρ hρ hs hf
          have hρc := hρ.const
          have hρf := hρ.func
          obtain ⟨sn9, -⟩ := hs
          obtain ⟨fx19, -⟩ := hf
          rw [qs19] at fx19
          rw [place_at HVS.out (k := 9) rfl] at sn9
          replace sn9 : ρ (.tmp 107) = _ := sn9
          clear HCS HVS qs5 qs8 qs11 qs12 qs13 qs14 qs15 qs16 qs18 qs19 qs20 qs21 qs22
          first
            | (refine run_passed sn9 ?_
               exact detK.mk)
            | (refine run_guarded sn9 ?_
               refine op_move rfl fx19 ?_
               exact detK.mk)
        -- 12: slot 110 := Op.binOp BinOp.eql 3 t108 t109 3
        refine sure_det (js := [(10, 108), (11, 109), (9, 107)]) (ts := []) (gd := (some (107, true))) (place_at HVS.out (k := 12) rfl) (by rw [HCS.out]; kernel_rfl) ?_ ?_
        · intro wx hx ρ hρ hs hf
          have hρc := hρ.const
          have hρf := hρ.func
          obtain ⟨sn10, sn11, sn9, -⟩ := hs
          rw [place_at HVS.out (k := 10) rfl] at sn10
          replace sn10 : ρ (.tmp 108) = _ := sn10
          rw [place_at HVS.out (k := 11) rfl] at sn11
          replace sn11 : ρ (.tmp 109) = _ := sn11
          rw [place_at HVS.out (k := 9) rfl] at sn9
          replace sn9 : ρ (.tmp 107) = _ := sn9
          clear hf
          clear HCS HVS qs5 qs8 qs11 qs12 qs13 qs14 qs15 qs16 qs18 qs19 qs20 qs21 qs22
          first
            | (refine run_passed sn9 ?_
               exact detK.mk)
            | (refine run_guarded sn9 ?_
               unfold runs
               go_simp
               exact detK.mk)
        -- 13: slot 111 := Op.move t22
        refine sure_det (js := [(9, 107)]) (ts := [22]) (gd := (some (107, true))) (place_at HVS.out (k := 13) rfl) (by rw [HCS.out]; kernel_rfl) ?_ ?_
        · intro wx hx ρ hρ hs hf
          have hρc := hρ.const
          have hρf := hρ.func
          obtain ⟨sn9, -⟩ := hs
          obtain ⟨fx22, -⟩ := hf
          rw [qs22] at fx22
          rw [place_at HVS.out (k := 9) rfl] at sn9
          replace sn9 : ρ (.tmp 107) = _ := sn9
          clear HCS HVS qs5 qs8 qs11 qs12 qs13 qs14 qs15 qs16 qs18 qs19 qs20 qs21 qs22
          first
            | (refine run_passed sn9 ?_
               exact detK.mk)
            | (refine run_guarded sn9 ?_
               refine op_move rfl fx22 ?_
               exact detK.mk)
        -- 14: slot 112 := Op.binOp BinOp.eql 4 t110 t111 4
        refine sure_det (js := [(12, 110), (13, 111), (9, 107)]) (ts := []) (gd := (some (107, true))) (place_at HVS.out (k := 14) rfl) (by rw [HCS.out]; kernel_rfl) ?_ ?_
        · intro wx hx ρ hρ hs hf
          have hρc := hρ.const
          have hρf := hρ.func
          obtain ⟨sn12, sn13, sn9, -⟩ := hs
          rw [place_at HVS.out (k := 12) rfl] at sn12
          replace sn12 : ρ (.tmp 110) = _ := sn12
          rw [place_at HVS.out (k := 13) rfl] at sn13
          replace sn13 : ρ (.tmp 111) = _ := sn13
          rw [place_at HVS.out (k := 9) rfl] at sn9
          replace sn9 : ρ (.tmp 107) = _ := sn9
          clear hf
          clear HCS HVS qs5 qs8 qs11 qs12 qs13 qs14 qs15 qs16 qs18 qs19 qs20 qs21 qs22
          first
            | (refine run_passed sn9 ?_
               exact detK.mk)
            | (refine run_guarded sn9 ?_
               unfold runs
               go_simp
               exact detK.mk)
        -- 15: slot 113 := Op.pick t107 t112 ((Value.bool false))
        refine sure_det (js := [(9, 107), (14, 112)]) (ts := []) (gd := none) (place_at HVS.out (k := 15) rfl) (by rw [HCS.out]; kernel_rfl) ?_ ?_
        · intro wx hx ρ hρ hs hf
          have hρc := hρ.const
          have hρf := hρ.func
          obtain ⟨sn9, sn14, -⟩ := hs
          rw [place_at HVS.out (k := 9) rfl] at sn9
          replace sn9 : ρ (.tmp 107) = _ := sn9
          rw [place_at HVS.out (k := 14) rfl] at sn14
          replace sn14 : ρ (.tmp 112) = _ := sn14
          clear hf
          clear HCS HVS qs5 qs8 qs11 qs12 qs13 qs14 qs15 qs16 qs18 qs19 qs20 qs21 qs22
          refine run_plain ?_
          first | refine op_pick_t rfl sn9 sn14 ?_ | refine op_pick_f rfl sn9 (hρ.const _) ?_
          exact detK.mk
        -- 16: slot 114 := Op.move t113
        refine sure_det (js := [(15, 113)]) (ts := []) (gd := none) (place_at HVS.out (k := 16) rfl) (by rw [HCS.out]; kernel_rfl) ?_ ?_
        · intro wx hx ρ hρ hs hf
          have hρc := hρ.const
          have hρf := hρ.func
          obtain ⟨sn15, -⟩ := hs
          rw [place_at HVS.out (k := 15) rfl] at sn15
          replace sn15 : ρ (.tmp 113) = _ := sn15
          clear hf
          clear HCS HVS qs5 qs8 qs11 qs12 qs13 qs14 qs15 qs16 qs18 qs19 qs20 qs21 qs22
          refine run_plain ?_
          refine op_move rfl sn15 ?_
          exact detK.mk
        -- 17: slot 115 := Op.move t20
        refine sure_det (js := [(16, 114)]) (ts := [20]) (gd := (some (114, true))) (place_at HVS.out (k := 17) rfl) (by rw [HCS.out]; kernel_rfl) ?_ ?_
        · intro wx hx ρ hρ hs hf
          have hρc := hρ.const
          have hρf := hρ.func
          obtain ⟨sn16, -⟩ := hs
          obtain ⟨fx20, -⟩ := hf
          rw [qs20] at fx20
          rw [place_at HVS.out (k := 16) rfl] at sn16
          replace sn16 : ρ (.tmp 114) = _ := sn16
          clear HCS HVS qs5 qs8 qs11 qs12 qs13 qs14 qs15 qs16 qs18 qs19 qs20 qs21 qs22
          first
            | (refine run_passed sn16 ?_
               exact detK.mk)
            | (refine run_guarded sn16 ?_
               refine op_move rfl fx20 ?_
               exact detK.mk)
        -- 18: slot 116 := Op.move t21
        refine sure_det (js := [(16, 114)]) (ts := [21]) (gd := (some (114, true))) (place_at HVS.out (k := 18) rfl) (by rw [HCS.out]; kernel_rfl) ?_ ?_
        · intro wx hx ρ hρ hs hf
          have hρc := hρ.const
          have hρf := hρ.func
          obtain ⟨sn16, -⟩ := hs
          obtain ⟨fx21, -⟩ := hf
          rw [qs21] at fx21
          rw [place_at HVS.out (k := 16) rfl] at sn16
          replace sn16 : ρ (.tmp 114) = _ := sn16
          clear HCS HVS qs5 qs8 qs11 qs12 qs13 qs14 qs15 qs16 qs18 qs19 qs20 qs21 qs22
          first
            | (refine run_passed sn16 ?_
               exact detK.mk)
            | (refine run_guarded sn16 ?_
               refine op_move rfl fx21 ?_
               exact detK.mk)
        -- 19: slot 117 := Op.binOp BinOp.eql 3 t115 t116 3
        refine sure_det (js := [(17, 115), (18, 116), (16, 114)]) (ts := []) (gd := (some (114, true))) (place_at HVS.out (k := 19) rfl) (by rw [HCS.out]; kernel_rfl) ?_ ?_
        · intro wx hx ρ hρ hs hf
          have hρc := hρ.const
          have hρf := hρ.func
          obtain ⟨sn17, sn18, sn16, -⟩ := hs
          rw [place_at HVS.out (k := 17) rfl] at sn17
          replace sn17 : ρ (.tmp 115) = _ := sn17
          rw [place_at HVS.out (k := 18) rfl] at sn18
          replace sn18 : ρ (.tmp 116) = _ := sn18
          rw [place_at HVS.out (k := 16) rfl] at sn16
          replace sn16 : ρ (.tmp 114) = _ := sn16
          clear hf
          clear HCS HVS qs5 qs8 qs11 qs12 qs13 qs14 qs15 qs16 qs18 qs19 qs20 qs21 qs22
          first
            | (refine run_passed sn16 ?_
               exact detK.mk)
            | (refine run_guarded sn16 ?_
               unfold runs
               go_simp
               exact detK.mk)
        -- 20: slot 118 := Op.move t5
        refine sure_det (js := [(16, 114)]) (ts := [5]) (gd := (some (114, true))) (place_at HVS.out (k := 20) rfl) (by rw [HCS.out]; kernel_rfl) ?_ ?_
        · intro wx hx ρ hρ hs hf
          have hρc := hρ.const
          have hρf := hρ.func
          obtain ⟨sn16, -⟩ := hs
          obtain ⟨fx5, -⟩ := hf
          rw [qs5] at fx5
          rw [place_at HVS.out (k := 16) rfl] at sn16
          replace sn16 : ρ (.tmp 114) = _ := sn16
          clear HCS HVS qs5 qs8 qs11 qs12 qs13 qs14 qs15 qs16 qs18 qs19 qs20 qs21 qs22
          first
            | (refine run_passed sn16 ?_
               exact detK.mk)
            | (refine run_guarded sn16 ?_
               refine op_move rfl fx5 ?_
               exact detK.mk)
        -- 21: slot 119 := Op.convert 5 3 t118
        refine sure_det (js := [(20, 118), (16, 114)]) (ts := []) (gd := (some (114, true))) (place_at HVS.out (k := 21) rfl) (by rw [HCS.out]; kernel_rfl) ?_ ?_
        · intro wx hx ρ hρ hs hf
          have hρc := hρ.const
          have hρf := hρ.func
          obtain ⟨sn20, sn16, -⟩ := hs
          rw [place_at HVS.out (k := 20) rfl] at sn20
          replace sn20 : ρ (.tmp 118) = _ := sn20
          rw [place_at HVS.out (k := 16) rfl] at sn16
          replace sn16 : ρ (.tmp 114) = _ := sn16
          clear hf
          clear HCS HVS qs5 qs8 qs11 qs12 qs13 qs14 qs15 qs16 qs18 qs19 qs20 qs21 qs22
          first
            | (refine run_passed sn16 ?_
               exact detK.mk)
            | (refine run_guarded sn16 ?_
               unfold runs
               go_simp
               exact detK.mk)
        -- 22: slot 120 := Op.move t12
        refine sure_det (js := [(16, 114)]) (ts := [12]) (gd := (some (114, true))) (place_at HVS.out (k := 22) rfl) (by rw [HCS.out]; kernel_rfl) ?_ ?_
        · intro wx hx ρ hρ hs hf
          have hρc := hρ.const
          have hρf := hρ.func
          obtain ⟨sn16, -⟩ := hs
          obtain ⟨fx12, -⟩ := hf
          rw [qs12] at fx12
          rw [place_at HVS.out (k := 16) rfl] at sn16
          replace sn16 : ρ (.tmp 114) = _ := sn16
          clear HCS HVS qs5 qs8 qs11 qs12 qs13 qs14 qs15 qs16 qs18 qs19 qs20 qs21 qs22
          first
            | (refine run_passed sn16 ?_
               exact detK.mk)
            | (refine run_guarded sn16 ?_
               refine op_move rfl fx12 ?_
               exact detK.mk)
        -- 23: slot 121 := Op.binOp BinOp.rem 3 t119 t120 3
        refine sure_det (js := [(21, 119), (22, 120), (16, 114)]) (ts := []) (gd := (some (114, true))) (place_at HVS.out (k := 23) rfl) (by rw [HCS.out]; kernel_rfl) ?_ ?_
        · intro wx hx ρ hρ hs hf
          have hρc := hρ.const
          have hρf := hρ.func
          obtain ⟨sn21, sn22, sn16, -⟩ := hs
          rw [place_at HVS.out (k := 21) rfl] at sn21
          replace sn21 : ρ (.tmp 119) = _ := sn21
          rw [place_at HVS.out (k := 22) rfl] at sn22
          replace sn22 : ρ (.tmp 120) = _ := sn22
          rw [place_at HVS.out (k := 16) rfl] at sn16
          replace sn16 : ρ (.tmp 114) = _ := sn16
          clear hf
          clear HCS HVS qs5 qs8 qs11 qs12 qs13 qs14 qs15 qs16 qs18 qs19 qs20 qs21 qs22
          first
            | (refine run_passed sn16 ?_
               exact detK.mk)
            | (refine run_guarded sn16 ?_
               unfold runs
               go_simp
               exact detK.mk)
        -- 24: slot 122 := Op.move t8
        refine sure_det (js := [(16, 114)]) (ts := [8]) (gd := (some (114, true))) (place_at HVS.out (k := 24) rfl) (by rw [HCS.out]; kernel_rfl) ?_ ?_
        · intro wx hx ρ hρ hs hf
          have hρc := hρ.const
          have hρf := hρ.func
          obtain ⟨sn16, -⟩ := hs
          obtain ⟨fx8, -⟩ := hf
          rw [qs8] at fx8
          rw [place_at HVS.out (k := 16) rfl] at sn16
          replace sn16 : ρ (.tmp 114) = _ := sn16
          clear HCS HVS qs5 qs8 qs11 qs12 qs13 qs14 qs15 qs16 qs18 qs19 qs20 qs21 qs22
          first
            | (refine run_passed sn16 ?_
               exact detK.mk)
            | (refine run_guarded sn16 ?_
               refine op_move rfl fx8 ?_
               exact detK.mk)
        -- 25: slot 123 := Op.convert 5 3 t122
        refine sure_det (js := [(24, 122), (16, 114)]) (ts := []) (gd := (some (114, true))) (place_at HVS.out (k := 25) rfl) (by rw [HCS.out]; kernel_rfl) ?_ ?_
        · intro wx hx ρ hρ hs hf
          have hρc := hρ.const
          have hρf := hρ.func
          obtain ⟨sn24, sn16, -⟩ := hs
          rw [place_at HVS.out (k := 24) rfl] at sn24
          replace sn24 : ρ (.tmp 122) = _ := sn24
          rw [place_at HVS.out (k := 16) rfl] at sn16
          replace sn16 : ρ (.tmp 114) = _ := sn16
          clear hf
          clear HCS HVS qs5 qs8 qs11 qs12 qs13 qs14 qs15 qs16 qs18 qs19 qs20 qs21 qs22
          first
            | (refine run_passed sn16 ?_
               exact detK.mk)
            | (refine run_guarded sn16 ?_
               unfold runs
               go_simp
               exact detK.mk)
        -- 26: slot 124 := Op.move t12
        refine sure_det (js := [(16, 114)]) (ts := [12]) (gd := (some (114, true))) (place_at HVS.out (k := 26) rfl) (by rw [HCS.out]; kernel_rfl) ?_ ?_
        · intro wx hx ρ hρ hs hf
          have hρc := hρ.const
          have hρf := hρ.func
          obtain ⟨sn16, -⟩ := hs
          obtain ⟨fx12, -⟩ := hf
          rw [qs12] at fx12
          rw [place_at HVS.out (k := 16) rfl] at sn16
          replace sn16 : ρ (.tmp 114) = _ := sn16
          clear HCS HVS qs5 qs8 qs11 qs12 qs13 qs14 qs15 qs16 qs18 qs19 qs20 qs21 qs22
          first
            | (refine run_passed sn16 ?_
               exact detK.mk)
            | (refine run_guarded sn16 ?_
               refine op_move rfl fx12 ?_
               exact detK.mk)
        -- 27: slot 125 := Op.binOp BinOp.rem 3 t123 t124 3
        refine sure_det (js := [(25, 123), (26, 124), (16, 114)]) (ts := []) (gd := (some (114, true))) (place_at HVS.out (k := 27) rfl) (by rw [HCS.out]; kernel_rfl) ?_ ?_
        · intro wx hx ρ hρ hs hf
          have hρc := hρ.const
          have hρf := hρ.func
          obtain ⟨sn25, sn26, sn16, -⟩ := hs
          rw [place_at HVS.out (k := 25) rfl] at sn25
          replace sn25 : ρ (.tmp 123) = _ := sn25
          rw [place_at HVS.out (k := 26) rfl] at sn26
          replace sn26 : ρ (.tmp 124) = _ := sn26
          rw [place_at HVS.out (k := 16) rfl] at sn16
          replace sn16 : ρ (.tmp 114) = _ := sn16
          clear hf
          clear HCS HVS qs5 qs8 qs11 qs12 qs13 qs14 qs15 qs16 qs18 qs19 qs20 qs21 qs22
          first
            | (refine run_passed sn16 ?_
               exact detK.mk)
            | (refine run_guarded sn16 ?_
               unfold runs
               go_simp
               exact detK.mk)
        -- 28: slot 126 := Op.binOp BinOp.eql 3 t121 t125 3
        refine sure_det (js := [(23, 121), (27, 125), (16, 114)]) (ts := []) (gd := (some (114, true))) (place_at HVS.out (k := 28) rfl) (by rw [HCS.out]; kernel_rfl) ?_ ?_
        · intro wx hx ρ hρ hs hf
          have hρc := hρ.const
          have hρf := hρ.func
          obtain ⟨sn23, sn27, sn16, -⟩ := hs
          rw [place_at HVS.out (k := 23) rfl] at sn23
          replace sn23 : ρ (.tmp 121) = _ := sn23
          rw [place_at HVS.out (k := 27) rfl] at sn27
          replace sn27 : ρ (.tmp 125) = _ := sn27
          rw [place_at HVS.out (k := 16) rfl] at sn16
          replace sn16 : ρ (.tmp 114) = _ := sn16
          clear hf
          clear HCS HVS qs5 qs8 qs11 qs12 qs13 qs14 qs15 qs16 qs18 qs19 qs20 qs21 qs22
          first
            | (refine run_passed sn16 ?_
               exact detK.mk)
            | (refine run_guarded sn16 ?_
               unfold runs
               go_simp
               exact detK.mk)
        -- 29: slot 127 := Op.binOp BinOp.eql 4 t117 t126 4
        refine sure_det (js := [(19, 117), (28, 126), (16, 114)]) (ts := []) (gd := (some (114, true))) (place_at HVS.out (k := 29) rfl) (by rw [HCS.out]; kernel_rfl) ?_ ?_
        · intro wx hx ρ hρ hs hf
          have hρc := hρ.const
          have hρf := hρ.func
          obtain ⟨sn19, sn28, sn16, -⟩ := hs
          rw [place_at HVS.out (k := 19) rfl] at sn19
          replace sn19 : ρ (.tmp 117) = _ := sn19
          rw [place_at HVS.out (k := 28) rfl] at sn28
          replace sn28 : ρ (.tmp 126) = _ := sn28
          rw [place_at HVS.out (k := 16) rfl] at sn16
          replace sn16 : ρ (.tmp 114) = _ := sn16
          clear hf
          clear HCS HVS qs5 qs8 qs11 qs12 qs13 qs14 qs15 qs16 qs18 qs19 qs20 qs21 qs22
          first
            | (refine run_passed sn16 ?_
               exact detK.mk)
            | (refine run_guarded sn16 ?_
               unfold runs
               go_simp
               exact detK.mk)
        -- 30: slot 128 := Op.pick t114 t127 ((Value.bool false))
        refine sure_det (js := [(16, 114), (29, 127)]) (ts := []) (gd := none) (place_at HVS.out (k := 30) rfl) (by rw [HCS.out]; kernel_rfl) ?_ ?_
        · intro wx hx ρ hρ hs hf
          have hρc := hρ.const
          have hρf := hρ.func
          obtain ⟨sn16, sn29, -⟩ := hs
          rw [place_at HVS.out (k := 16) rfl] at sn16
          replace sn16 : ρ (.tmp 114) = _ := sn16
          rw [place_at HVS.out (k := 29) rfl] at sn29
          replace sn29 : ρ (.tmp 127) = _ := sn29
          clear hf
          clear HCS HVS qs5 qs8 qs11 qs12 qs13 qs14 qs15 qs16 qs18 qs19 qs20 qs21 qs22
          refine run_plain ?_
          first | refine op_pick_t rfl sn16 sn29 ?_ | refine op_pick_f rfl sn16 (hρ.const _) ?_
          exact detK.mk
        -- 31: slot 129 := Op.move t128
        refine sure_det (js := [(30, 128)]) (ts := []) (gd := none) (place_at HVS.out (k := 31) rfl) (by rw [HCS.out]; kernel_rfl) ?_ ?_
        · intro wx hx ρ hρ hs hf
          have hρc := hρ.const
          have hρf := hρ.func
          obtain ⟨sn30, -⟩ := hs
          rw [place_at HVS.out (k := 30) rfl] at sn30
          replace sn30 : ρ (.tmp 128) = _ := sn30
          clear hf
          clear HCS HVS qs5 qs8 qs11 qs12 qs13 qs14 qs15 qs16 qs18 qs19 qs20 qs21 qs22
          refine run_plain ?_
          refine op_move rfl sn30 ?_
          exact detK.mk
        -- 32: slot 130 := Op.move t20
        refine sure_det (js := [(31, 129)]) (ts := [20]) (gd := (some (129, true))) (place_at HVS.out (k := 32) rfl) (by rw [HCS.out]; kernel_rfl) ?_ ?_
        · intro wx hx ρ hρ hs hf
          have hρc := hρ.const
          have hρf := hρ.func
          obtain ⟨sn31, -⟩ := hs
          obtain ⟨fx20, -⟩ := hf
          rw [qs20] at fx20
          rw [place_at HVS.out (k := 31) rfl] at sn31
          replace sn31 : ρ (.tmp 129) = _ := sn31
          clear HCS HVS qs5 qs8 qs11 qs12 qs13 qs14 qs15 qs16 qs18 qs19 qs20 qs21 qs22
          first
            | (refine run_passed sn31 ?_
               exact detK.mk)
            | (refine run_guarded sn31 ?_
               refine op_move rfl fx20 ?_
               exact detK.mk)
        -- 33: slot 131 := Op.move t18
        refine sure_det (js := [(31, 129)]) (ts := [18]) (gd := (some (129, true))) (place_at HVS.out (k := 33) rfl) (by rw [HCS.out]; kernel_rfl) ?_ ?_
        · intro wx hx ρ hρ hs hf
          have hρc := hρ.const
          have hρf := hρ.func
          obtain ⟨sn31, -⟩ := hs
          obtain ⟨fx18, -⟩ := hf
          rw [qs18] at fx18
          rw [place_at HVS.out (k := 31) rfl] at sn31
          replace sn31 : ρ (.tmp 129) = _ := sn31
          clear HCS HVS qs5 qs8 qs11 qs12 qs13 qs14 qs15 qs16 qs18 qs19 qs20 qs21 qs22
          first
            | (refine run_passed sn31 ?_
               exact detK.mk)
            | (refine run_guarded sn31 ?_
               refine op_move rfl fx18 ?_
               exact detK.mk)
        -- 34: slot 132 := Op.binOp BinOp.neq 3 t130 t131 3
        refine sure_det (js := [(32, 130), (33, 131), (31, 129)]) (ts := []) (gd := (some (129, true))) (place_at HVS.out (k := 34) rfl) (by rw [HCS.out]; kernel_rfl) ?_ ?_
        · intro wx hx ρ hρ hs hf
          have hρc := hρ.const
          have hρf := hρ.func
          obtain ⟨sn32, sn33, sn31, -⟩ := hs
          rw [place_at HVS.out (k := 32) rfl] at sn32
          replace sn32 : ρ (.tmp 130) = _ := sn32
          rw [place_at HVS.out (k := 33) rfl] at sn33
          replace sn33 : ρ (.tmp 131) = _ := sn33
          rw [place_at HVS.out (k := 31) rfl] at sn31
          replace sn31 : ρ (.tmp 129) = _ := sn31
          clear hf
          clear HCS HVS qs5 qs8 qs11 qs12 qs13 qs14 qs15 qs16 qs18 qs19 qs20 qs21 qs22
          first
            | (refine run_passed sn31 ?_
               exact detK.mk)
            | (refine run_guarded sn31 ?_
               unfold runs
               go_simp
               exact detK.mk)
        -- 35: slot 133 := Op.pick t129 t132 ((Value.bool false))
        refine sure_det (js := [(31, 129), (34, 132)]) (ts := []) (gd := none) (place_at HVS.out (k := 35) rfl) (by rw [HCS.out]; kernel_rfl) ?_ ?_
        · intro wx hx ρ hρ hs hf
          have hρc := hρ.const
          have hρf := hρ.func
          obtain ⟨sn31, sn34, -⟩ := hs
          rw [place_at HVS.out (k := 31) rfl] at sn31
          replace sn31 : ρ (.tmp 129) = _ := sn31
          rw [place_at HVS.out (k := 34) rfl] at sn34
          replace sn34 : ρ (.tmp 132) = _ := sn34
          clear hf
          clear HCS HVS qs5 qs8 qs11 qs12 qs13 qs14 qs15 qs16 qs18 qs19 qs20 qs21 qs22
          refine run_plain ?_
          first | refine op_pick_t rfl sn31 sn34 ?_ | refine op_pick_f rfl sn31 (hρ.const _) ?_
          exact detK.mk
        -- 36: slot 134 := Op.move t133
        refine sure_det (js := [(35, 133)]) (ts := []) (gd := none) (place_at HVS.out (k := 36) rfl) (by rw [HCS.out]; kernel_rfl) ?_ ?_
        · intro wx hx ρ hρ hs hf
          have hρc := hρ.const
          have hρf := hρ.func
          obtain ⟨sn35, -⟩ := hs
          rw [place_at HVS.out (k := 35) rfl] at sn35
          replace sn35 : ρ (.tmp 133) = _ := sn35
          clear hf
          clear HCS HVS qs5 qs8 qs11 qs12 qs13 qs14 qs15 qs16 qs18 qs19 qs20 qs21 qs22
          refine run_plain ?_
          refine op_move rfl sn35 ?_
          exact detK.mk
        -- 37: slot 135 := Op.move t20
        refine sure_det (js := [(36, 134)]) (ts := [20]) (gd := (some (134, true))) (place_at HVS.out (k := 37) rfl) (by rw [HCS.out]; kernel_rfl) ?_ ?_
        · intro wx hx ρ hρ hs hf
          have hρc := hρ.const
          have hρf := hρ.func
          obtain ⟨sn36, -⟩ := hs
          obtain ⟨fx20, -⟩ := hf
          rw [qs20] at fx20
          rw [place_at HVS.out (k := 36) rfl] at sn36
          replace sn36 : ρ (.tmp 134) = _ := sn36
          clear HCS HVS qs5 qs8 qs11 qs12 qs13 qs14 qs15 qs16 qs18 qs19 qs20 qs21 qs22
          first
            | (refine run_passed sn36 ?_
               exact detK.mk)
            | (refine run_guarded sn36 ?_
               refine op_move rfl fx20 ?_
               exact detK.mk)
        -- 38: slot 136 := Op.binOp BinOp.geq 3 t135 ((i64 8)) 3
        refine sure_det (js := [(37, 135), (36, 134)]) (ts := []) (gd := (some (134, true))) (place_at HVS.out (k := 38) rfl) (by rw [HCS.out]; kernel_rfl) ?_ ?_
        · intro wx hx ρ hρ hs hf
          have hρc := hρ.const
          have hρf := hρ.func
          obtain ⟨sn37, sn36, -⟩ := hs
          rw [place_at HVS.out (k := 37) rfl] at sn37
          replace sn37 : ρ (.tmp 135) = _ := sn37
          rw [place_at HVS.out (k := 36) rfl] at sn36
          replace sn36 : ρ (.tmp 134) = _ := sn36
          clear hf
          clear HCS HVS qs5 qs8 qs11 qs12 qs13 qs14 qs15 qs16 qs18 qs19 qs20 qs21 qs22
          first
            | (refine run_passed sn36 ?_
               exact detK.mk)
            | (refine run_guarded sn36 ?_
               unfold runs
               go_simp
               exact detK.mk)
        -- 39: slot 137 := Op.pick t134 t136 ((Value.bool false))
        refine sure_det (js := [(36, 134), (38, 136)]) (ts := []) (gd := none) (place_at HVS.out (k := 39) rfl) (by rw [HCS.out]; kernel_rfl) ?_ ?_
        · intro wx hx ρ hρ hs hf
          have hρc := hρ.const
          have hρf := hρ.func
          obtain ⟨sn36, sn38, -⟩ := hs
          rw [place_at HVS.out (k := 36) rfl] at sn36
          replace sn36 : ρ (.tmp 134) = _ := sn36
          rw [place_at HVS.out (k := 38) rfl] at sn38
          replace sn38 : ρ (.tmp 136) = _ := sn38
          clear hf
          clear HCS HVS qs5 qs8 qs11 qs12 qs13 qs14 qs15 qs16 qs18 qs19 qs20 qs21 qs22
          refine run_plain ?_
          first | refine op_pick_t rfl sn36 sn38 ?_ | refine op_pick_f rfl sn36 (hρ.const _) ?_
          exact detK.mk
        -- 40: slot 138 := Op.move t137
        refine sure_det (js := [(39, 137)]) (ts := []) (gd := none) (place_at HVS.out (k := 40) rfl) (by rw [HCS.out]; kernel_rfl) ?_ ?_
        · intro wx hx ρ hρ hs hf
          have hρc := hρ.const
          have hρf := hρ.func
          obtain ⟨sn39, -⟩ := hs
          rw [place_at HVS.out (k := 39) rfl] at sn39
          replace sn39 : ρ (.tmp 137) = _ := sn39
          clear hf
          clear HCS HVS qs5 qs8 qs11 qs12 qs13 qs14 qs15 qs16 qs18 qs19 qs20 qs21 qs22
          refine run_plain ?_
          refine op_move rfl sn39 ?_
          exact detK.mk
        -- 41: slot 139 := Op.move t20
        refine sure_det (js := [(40, 138)]) (ts := [20]) (gd := (some (138, true))) (place_at HVS.out (k := 41) rfl) (by rw [HCS.out]; kernel_rfl) ?_ ?_
        · intro wx hx ρ hρ hs hf
          have hρc := hρ.const
          have hρf := hρ.func
          obtain ⟨sn40, -⟩ := hs
          obtain ⟨fx20, -⟩ := hf
          rw [qs20] at fx20
          rw [place_at HVS.out (k := 40) rfl] at sn40
          replace sn40 : ρ (.tmp 138) = _ := sn40
          clear HCS HVS qs5 qs8 qs11 qs12 qs13 qs14 qs15 qs16 qs18 qs19 qs20 qs21 qs22
          first
            | (refine run_passed sn40 ?_
               exact detK.mk)
            | (refine run_guarded sn40 ?_
               refine op_move rfl fx20 ?_
               exact detK.mk)
        -- 42: slot 140 := Op.move t12
        refine sure_det (js := [(40, 138)]) (ts := [12]) (gd := (some (138, true))) (place_at HVS.out (k := 42) rfl) (by rw [HCS.out]; kernel_rfl) ?_ ?_
        · intro wx hx ρ hρ hs hf
          have hρc := hρ.const
          have hρf := hρ.func
          obtain ⟨sn40, -⟩ := hs
          obtain ⟨fx12, -⟩ := hf
          rw [qs12] at fx12
          rw [place_at HVS.out (k := 40) rfl] at sn40
          replace sn40 : ρ (.tmp 138) = _ := sn40
          clear HCS HVS qs5 qs8 qs11 qs12 qs13 qs14 qs15 qs16 qs18 qs19 qs20 qs21 qs22
          first
            | (refine run_passed sn40 ?_
               exact detK.mk)
            | (refine run_guarded sn40 ?_
               refine op_move rfl fx12 ?_
               exact detK.mk)
        -- 43: slot 141 := Op.binOp BinOp.add 3 ((i64 8)) t140 3
        refine sure_det (js := [(42, 140), (40, 138)]) (ts := []) (gd := (some (138, true))) (place_at HVS.out (k := 43) rfl) (by rw [HCS.out]; kernel_rfl) ?_ ?_
        · intro wx hx ρ hρ hs hf
          have hρc := hρ.const
          have hρf := hρ.func
          obtain ⟨sn42, sn40, -⟩ := hs
          rw [place_at HVS.out (k := 42) rfl] at sn42
          replace sn42 : ρ (.tmp 140) = _ := sn42
          rw [place_at HVS.out (k := 40) rfl] at sn40
          replace sn40 : ρ (.tmp 138) = _ := sn40
          clear hf
          clear HCS HVS qs5 qs8 qs11 qs12 qs13 qs14 qs15 qs16 qs18 qs19 qs20 qs21 qs22
          first
            | (refine run_passed sn40 ?_
               exact detK.mk)
            | (refine run_guarded sn40 ?_
               unfold runs
               go_simp
               exact detK.mk)
        -- 44: slot 142 := Op.binOp BinOp.lss 3 t139 t141 3
        refine sure_det (js := [(41, 139), (43, 141), (40, 138)]) (ts := []) (gd := (some (138, true))) (place_at HVS.out (k := 44) rfl) (by rw [HCS.out]; kernel_rfl) ?_ ?_
        · intro wx hx ρ hρ hs hf
          have hρc := hρ.const
          have hρf := hρ.func
          obtain ⟨sn41, sn43, sn40, -⟩ := hs
          rw [place_at HVS.out (k := 41) rfl] at sn41
          replace sn41 : ρ (.tmp 139) = _ := sn41
          rw [place_at HVS.out (k := 43) rfl] at sn43
          replace sn43 : ρ (.tmp 141) = _ := sn43
          rw [place_at HVS.out (k := 40) rfl] at sn40
          replace sn40 : ρ (.tmp 138) = _ := sn40
          clear hf
          clear HCS HVS qs5 qs8 qs11 qs12 qs13 qs14 qs15 qs16 qs18 qs19 qs20 qs21 qs22
          first
            | (refine run_passed sn40 ?_
               exact detK.mk)
            | (refine run_guarded sn40 ?_
               unfold runs
               go_simp
               exact detK.mk)
        -- 45: slot 143 := Op.pick t138 t142 ((Value.bool false))
        refine sure_det (js := [(40, 138), (44, 142)]) (ts := []) (gd := none) (place_at HVS.out (k := 45) rfl) (by rw [HCS.out]; kernel_rfl) ?_ ?_
        · intro wx hx ρ hρ hs hf
          have hρc := hρ.const
          have hρf := hρ.func
          obtain ⟨sn40, sn44, -⟩ := hs
          rw [place_at HVS.out (k := 40) rfl] at sn40
          replace sn40 : ρ (.tmp 138) = _ := sn40
          rw [place_at HVS.out (k := 44) rfl] at sn44
          replace sn44 : ρ (.tmp 142) = _ := sn44
          clear hf
          clear HCS HVS qs5 qs8 qs11 qs12 qs13 qs14 qs15 qs16 qs18 qs19 qs20 qs21 qs22
          refine run_plain ?_
          first | refine op_pick_t rfl sn40 sn44 ?_ | refine op_pick_f rfl sn40 (hρ.const _) ?_
          exact detK.mk
        -- 46: slot 144 := Op.move t143
        refine sure_det (js := [(45, 143)]) (ts := []) (gd := none) (place_at HVS.out (k := 46) rfl) (by rw [HCS.out]; kernel_rfl) ?_ ?_
        · intro wx hx ρ hρ hs hf
          have hρc := hρ.const
          have hρf := hρ.func
          obtain ⟨sn45, -⟩ := hs
          rw [place_at HVS.out (k := 45) rfl] at sn45
          replace sn45 : ρ (.tmp 143) = _ := sn45
          clear hf
          clear HCS HVS qs5 qs8 qs11 qs12 qs13 qs14 qs15 qs16 qs18 qs19 qs20 qs21 qs22
          refine run_plain ?_
          refine op_move rfl sn45 ?_
          exact detK.mk
        -- 47: slot 145 := Op.move t18
        refine sure_det (js := [(46, 144)]) (ts := [18]) (gd := (some (144, true))) (place_at HVS.out (k := 47) rfl) (by rw [HCS.out]; kernel_rfl) ?_ ?_
        · intro wx hx ρ hρ hs hf
          have hρc := hρ.const
          have hρf := hρ.func
          obtain ⟨sn46, -⟩ := hs
          obtain ⟨fx18, -⟩ := hf
          rw [qs18] at fx18
          rw [place_at HVS.out (k := 46) rfl] at sn46
          replace sn46 : ρ (.tmp 144) = _ := sn46
          clear HCS HVS qs5 qs8 qs11 qs12 qs13 qs14 qs15 qs16 qs18 qs19 qs20 qs21 qs22
          first
            | (refine run_passed sn46 ?_
               exact detK.mk)
            | (refine run_guarded sn46 ?_
               refine op_move rfl fx18 ?_
               exact detK.mk)
        -- 48: slot 146 := Op.move t12
        refine sure_det (js := [(46, 144)]) (ts := [12]) (gd := (some (144, true))) (place_at HVS.out (k := 48) rfl) (by rw [HCS.out]; kernel_rfl) ?_ ?_
        · intro wx hx ρ hρ hs hf
          have hρc := hρ.const
          have hρf := hρ.func
          obtain ⟨sn46, -⟩ := hs
          obtain ⟨fx12, -⟩ := hf
          rw [qs12] at fx12
          rw [place_at HVS.out (k := 46) rfl] at sn46
          replace sn46 : ρ (.tmp 144) = _ := sn46
          clear HCS HVS qs5 qs8 qs11 qs12 qs13 qs14 qs15 qs16 qs18 qs19 qs20 qs21 qs22
          first
            | (refine run_passed sn46 ?_
               exact detK.mk)
            | (refine run_guarded sn46 ?_
               refine op_move rfl fx12 ?_
               exact detK.mk)
        -- 49: slot 147 := Op.binOp BinOp.add 3 ((i64 8)) t146 3
        refine sure_det (js := [(48, 146), (46, 144)]) (ts := []) (gd := (some (144, true))) (place_at HVS.out (k := 49) rfl) (by rw [HCS.out]; kernel_rfl) ?_ ?_
        · intro wx hx ρ hρ hs hf
          have hρc := hρ.const
          have hρf := hρ.func
          obtain ⟨sn48, sn46, -⟩ := hs
          rw [place_at HVS.out (k := 48) rfl] at sn48
          replace sn48 : ρ (.tmp 146) = _ := sn48
          rw [place_at HVS.out (k := 46) rfl] at sn46
          replace sn46 : ρ (.tmp 144) = _ := sn46
          clear hf
          clear HCS HVS qs5 qs8 qs11 qs12 qs13 qs14 qs15 qs16 qs18 qs19 qs20 qs21 qs22
          first
            | (refine run_passed sn46 ?_
               exact detK.mk)
            | (refine run_guarded sn46 ?_
               unfold runs
               go_simp
               exact detK.mk)
        -- 50: slot 148 := Op.binOp BinOp.geq 3 t145 t147 3
        refine sure_det (js := [(47, 145), (49, 147), (46, 144)]) (ts := []) (gd := (some (144, true))) (place_at HVS.out (k := 50) rfl) (by rw [HCS.out]; kernel_rfl) ?_ ?_
        · intro wx hx ρ hρ hs hf
          have hρc := hρ.const
          have hρf := hρ.func
          obtain ⟨sn47, sn49, sn46, -⟩ := hs
          rw [place_at HVS.out (k := 47) rfl] at sn47
          replace sn47 : ρ (.tmp 145) = _ := sn47
          rw [place_at HVS.out (k := 49) rfl] at sn49
          replace sn49 : ρ (.tmp 147) = _ := sn49
          rw [place_at HVS.out (k := 46) rfl] at sn46
          replace sn46 : ρ (.tmp 144) = _ := sn46
          clear hf
          clear HCS HVS qs5 qs8 qs11 qs12 qs13 qs14 qs15 qs16 qs18 qs19 qs20 qs21 qs22
          first
            | (refine run_passed sn46 ?_
               exact detK.mk)
            | (refine run_guarded sn46 ?_
               unfold runs
               go_simp
               exact detK.mk)
        -- 51: slot 149 := Op.pick t144 t148 ((Value.bool false))
        refine sure_det (js := [(46, 144), (50, 148)]) (ts := []) (gd := none) (place_at HVS.out (k := 51) rfl) (by rw [HCS.out]; kernel_rfl) ?_ ?_
        · intro wx hx ρ hρ hs hf
          have hρc := hρ.const
          have hρf := hρ.func
          obtain ⟨sn46, sn50, -⟩ := hs
          rw [place_at HVS.out (k := 46) rfl] at sn46
          replace sn46 : ρ (.tmp 144) = _ := sn46
          rw [place_at HVS.out (k := 50) rfl] at sn50
          replace sn50 : ρ (.tmp 148) = _ := sn50
          clear hf
          clear HCS HVS qs5 qs8 qs11 qs12 qs13 qs14 qs15 qs16 qs18 qs19 qs20 qs21 qs22
          refine run_plain ?_
          first | refine op_pick_t rfl sn46 sn50 ?_ | refine op_pick_f rfl sn46 (hρ.const _) ?_
          exact detK.mk
        -- 52: slot 150 := Op.move t149
        refine sure_det (js := [(51, 149)]) (ts := []) (gd := none) (place_at HVS.out (k := 52) rfl) (by rw [HCS.out]; kernel_rfl) ?_ ?_
        · intro wx hx ρ hρ hs hf
          have hρc := hρ.const
          have hρf := hρ.func
          obtain ⟨sn51, -⟩ := hs
          rw [place_at HVS.out (k := 51) rfl] at sn51
          replace sn51 : ρ (.tmp 149) = _ := sn51
          clear hf
          clear HCS HVS qs5 qs8 qs11 qs12 qs13 qs14 qs15 qs16 qs18 qs19 qs20 qs21 qs22
          refine run_plain ?_
          refine op_move rfl sn51 ?_
          exact detK.mk
        -- 53: slot 151 := Op.move t18
        refine sure_det (js := [(52, 150)]) (ts := [18]) (gd := (some (150, true))) (place_at HVS.out (k := 53) rfl) (by rw [HCS.out]; kernel_rfl) ?_ ?_
        · intro wx hx ρ hρ hs hf
          have hρc := hρ.const
          have hρf := hρ.func
          obtain ⟨sn52, -⟩ := hs
          obtain ⟨fx18, -⟩ := hf
          rw [qs18] at fx18
          rw [place_at HVS.out (k := 52) rfl] at sn52
          replace sn52 : ρ (.tmp 150) = _ := sn52
          clear HCS HVS qs5 qs8 qs11 qs12 qs13 qs14 qs15 qs16 qs18 qs19 qs20 qs21 qs22
          first
            | (refine run_passed sn52 ?_
               exact detK.mk)
            | (refine run_guarded sn52 ?_
               refine op_move rfl fx18 ?_
               exact detK.mk)
        -- 54: slot 152 := Op.fieldAddr 42 t14 2
        refine sure_det (js := [(52, 150)]) (ts := [14]) (gd := (some (150, true))) (place_at HVS.out (k := 54) rfl) (by rw [HCS.out]; kernel_rfl) ?_ ?_
        · intro wx hx ρ hρ hs hf
          have hρc := hρ.const
          have hρf := hρ.func
          obtain ⟨sn52, -⟩ := hs
          obtain ⟨fx14, -⟩ := hf
          rw [qs14] at fx14
          rw [place_at HVS.out (k := 52) rfl] at sn52
          replace sn52 : ρ (.tmp 150) = _ := sn52
          clear HCS HVS qs5 qs8 qs11 qs12 qs13 qs14 qs15 qs16 qs18 qs19 qs20 qs21 qs22
          first
            | (refine run_passed sn52 ?_
               exact detK.mk)
            | (refine run_guarded sn52 ?_
               unfold runs
               go_simp
               exact detK.mk)
        -- 55: slot 153 := Op.load 28 t152
        refine sure_det (js := [(54, 152), (52, 150)]) (ts := []) (gd := (some (150, true))) (place_at HVS.out (k := 55) rfl) (by rw [HCS.out]; kernel_rfl) ?_ ?_
        · intro wx hx ρ hρ hs hf
          have hρc := hρ.const
          have hρf := hρ.func
          obtain ⟨sn54, sn52, -⟩ := hs
          rw [place_at HVS.out (k := 54) rfl] at sn54
          replace sn54 : ρ (.tmp 152) = _ := sn54
          rw [place_at HVS.out (k := 52) rfl] at sn52
          replace sn52 : ρ (.tmp 150) = _ := sn52
          clear hf
          clear HCS HVS qs5 qs8 qs11 qs12 qs13 qs14 qs15 qs16 qs18 qs19 qs20 qs21 qs22
          first
            | (refine run_passed sn52 ?_
               exact detK.mk)
            | (refine run_guarded sn52 ?_
               obtain ⟨m0, m1, m2⟩ := hall wx hx
               unfold runs
               go_simp
               exact detK.mk)
        -- 56: slot 154 := Op.call { len, args := #[t153], argTypes := #[28] }
        refine sure_det (js := [(55, 153), (52, 150)]) (ts := []) (gd := (some (150, true))) (place_at HVS.out (k := 56) rfl) (by rw [HCS.out]; kernel_rfl) ?_ ?_
        · intro wx hx ρ hρ hs hf
          have hρc := hρ.const
          have hρf := hρ.func
          obtain ⟨sn55, sn52, -⟩ := hs
          rw [place_at HVS.out (k := 55) rfl] at sn55
          replace sn55 : ρ (.tmp 153) = _ := sn55
          rw [place_at HVS.out (k := 52) rfl] at sn52
          replace sn52 : ρ (.tmp 150) = _ := sn52
          clear hf
          clear HCS HVS qs5 qs8 qs11 qs12 qs13 qs14 qs15 qs16 qs18 qs19 qs20 qs21 qs22
          first
            | (refine run_passed sn52 ?_
               exact detK.mk)
            | (refine run_guarded sn52 ?_
               unfold runs
               go_simp
               exact detK.mk)
        -- 57: slot 155 := Op.binOp BinOp.lss 3 t151 t154 3
        refine sure_det (js := [(53, 151), (56, 154), (52, 150)]) (ts := []) (gd := (some (150, true))) (place_at HVS.out (k := 57) rfl) (by rw [HCS.out]; kernel_rfl) ?_ ?_
        · intro wx hx ρ hρ hs hf
          have hρc := hρ.const
          have hρf := hρ.func
          obtain ⟨sn53, sn56, sn52, -⟩ := hs
          rw [place_at HVS.out (k := 53) rfl] at sn53
          replace sn53 : ρ (.tmp 151) = _ := sn53
          rw [place_at HVS.out (k := 56) rfl] at sn56
          replace sn56 : ρ (.tmp 154) = _ := sn56
          rw [place_at HVS.out (k := 52) rfl] at sn52
          replace sn52 : ρ (.tmp 150) = _ := sn52
          clear hf
          clear HCS HVS qs5 qs8 qs11 qs12 qs13 qs14 qs15 qs16 qs18 qs19 qs20 qs21 qs22
          first
            | (refine run_passed sn52 ?_
               exact detK.mk)
            | (refine run_guarded sn52 ?_
               unfold runs
               go_simp
               exact detK.mk)
        -- 58: slot 156 := Op.pick t150 t155 ((Value.bool false))
        refine sure_det (js := [(52, 150), (57, 155)]) (ts := []) (gd := none) (place_at HVS.out (k := 58) rfl) (by rw [HCS.out]; kernel_rfl) ?_ ?_
        · intro wx hx ρ hρ hs hf
          have hρc := hρ.const
          have hρf := hρ.func
          obtain ⟨sn52, sn57, -⟩ := hs
          rw [place_at HVS.out (k := 52) rfl] at sn52
          replace sn52 : ρ (.tmp 150) = _ := sn52
          rw [place_at HVS.out (k := 57) rfl] at sn57
          replace sn57 : ρ (.tmp 155) = _ := sn57
          clear hf
          clear HCS HVS qs5 qs8 qs11 qs12 qs13 qs14 qs15 qs16 qs18 qs19 qs20 qs21 qs22
          refine run_plain ?_
          first | refine op_pick_t rfl sn52 sn57 ?_ | refine op_pick_f rfl sn52 (hρ.const _) ?_
          exact detK.mk
        -- 59: slot 157 := Op.move t156
        refine sure_det (js := [(58, 156)]) (ts := []) (gd := none) (place_at HVS.out (k := 59) rfl) (by rw [HCS.out]; kernel_rfl) ?_ ?_
        · intro wx hx ρ hρ hs hf
          have hρc := hρ.const
          have hρf := hρ.func
          obtain ⟨sn58, -⟩ := hs
          rw [place_at HVS.out (k := 58) rfl] at sn58
          replace sn58 : ρ (.tmp 156) = _ := sn58
          clear hf
          clear HCS HVS qs5 qs8 qs11 qs12 qs13 qs14 qs15 qs16 qs18 qs19 qs20 qs21 qs22
          refine run_plain ?_
          refine op_move rfl sn58 ?_
          exact detK.mk
        -- 60: slot 158 := Op.move t12
        refine sure_det (js := [(59, 157)]) (ts := [12]) (gd := (some (157, true))) (place_at HVS.out (k := 60) rfl) (by rw [HCS.out]; kernel_rfl) ?_ ?_
        · intro wx hx ρ hρ hs hf
          have hρc := hρ.const
          have hρf := hρ.func
          obtain ⟨sn59, -⟩ := hs
          obtain ⟨fx12, -⟩ := hf
          rw [qs12] at fx12
          rw [place_at HVS.out (k := 59) rfl] at sn59
          replace sn59 : ρ (.tmp 157) = _ := sn59
          clear HCS HVS qs5 qs8 qs11 qs12 qs13 qs14 qs15 qs16 qs18 qs19 qs20 qs21 qs22
          first
            | (refine run_passed sn59 ?_
               exact detK.mk)
            | (refine run_guarded sn59 ?_
               refine op_move rfl fx12 ?_
               exact detK.mk)
        -- 61: slot 159 := Op.move t16
        refine sure_det (js := [(59, 157)]) (ts := [16]) (gd := (some (157, true))) (place_at HVS.out (k := 61) rfl) (by rw [HCS.out]; kernel_rfl) ?_ ?_
        · intro wx hx ρ hρ hs hf
          have hρc := hρ.const
          have hρf := hρ.func
          obtain ⟨sn59, -⟩ := hs
          obtain ⟨fx16, -⟩ := hf
          rw [qs16] at fx16
          rw [place_at HVS.out (k := 59) rfl] at sn59
          replace sn59 : ρ (.tmp 157) = _ := sn59
          clear HCS HVS qs5 qs8 qs11 qs12 qs13 qs14 qs15 qs16 qs18 qs19 qs20 qs21 qs22
          first
            | (refine run_passed sn59 ?_
               exact detK.mk)
            | (refine run_guarded sn59 ?_
               refine op_move rfl fx16 ?_
               exact detK.mk)
        -- 62: slot 160 := Op.call { call ( 31), args := #[t158, t159], argTypes := #[3, 3] }
        refine sure_det (js := [(60, 158), (61, 159), (59, 157)]) (ts := []) (gd := (some (157, true))) (place_at HVS.out (k := 62) rfl) (by rw [HCS.out]; kernel_rfl) ?_ ?_
        · intro wx hx ρ hρ hs hf
          have hρc := hρ.const
          have hρf := hρ.func
          obtain ⟨sn60, sn61, sn59, -⟩ := hs
          rw [place_at HVS.out (k := 60) rfl] at sn60
          replace sn60 : ρ (.tmp 158) = _ := sn60
          rw [place_at HVS.out (k := 61) rfl] at sn61
          replace sn61 : ρ (.tmp 159) = _ := sn61
          rw [place_at HVS.out (k := 59) rfl] at sn59
          replace sn59 : ρ (.tmp 157) = _ := sn59
          clear hf
          clear HCS HVS qs5 qs8 qs11 qs12 qs13 qs14 qs15 qs16 qs18 qs19 qs20 qs21 qs22
          first
            | (refine run_passed sn59 ?_
               exact detK.mk)
            | (refine run_guarded sn59 ?_
               refine op_call rfl hρ Try.call31 (map_two sn60 sn61) ?_
               first | ((with_reducible refine Calls.mono (cright_any _ _ _ _ _ _) ?_); rw [hright]; rintro e w' ⟨rfl, hx5⟩; refine ⟨_, rfl, ?_⟩; exact detK.ext hx5) | ((with_reducible refine Calls.mono (f0 _) ?_); rintro e w' ⟨rfl, rfl⟩; refine ⟨_, rfl, ?_⟩; exact detK.mk) | ((with_reducible refine Calls.mono (fn0 _) ?_); rintro e w' ⟨rfl, rfl⟩; refine ⟨_, rfl, ?_⟩; exact detK.mk) | ((with_reducible refine Calls.mono (fz _) ?_); rintro e w' ⟨rfl, rfl⟩; refine ⟨_, rfl, ?_⟩; exact detK.mk) | ((with_reducible refine Calls.mono (f1 _) ?_); rintro e w' ⟨rfl, rfl⟩; refine ⟨_, rfl, ?_⟩; exact detK.mk))
        -- 63: slot 161 := Op.move t12
        refine sure_det (js := [(59, 157)]) (ts := [12]) (gd := (some (157, true))) (place_at HVS.out (k := 63) rfl) (by rw [HCS.out]; kernel_rfl) ?_ ?_
        · intro wx hx ρ hρ hs hf
          have hρc := hρ.const
          have hρf := hρ.func
          obtain ⟨sn59, -⟩ := hs
          obtain ⟨fx12, -⟩ := hf
          rw [qs12] at fx12
          rw [place_at HVS.out (k := 59) rfl] at sn59
          replace sn59 : ρ (.tmp 157) = _ := sn59
          clear HCS HVS qs5 qs8 qs11 qs12 qs13 qs14 qs15 qs16 qs18 qs19 qs20 qs21 qs22
          first
            | (refine run_passed sn59 ?_
               exact detK.mk)
            | (refine run_guarded sn59 ?_
               refine op_move rfl fx12 ?_
               exact detK.mk)
        -- 64: slot 162 := Op.move t16
        refine sure_det (js := [(59, 157)]) (ts := [16]) (gd := (some (157, true))) (place_at HVS.out (k := 64) rfl) (by rw [HCS.out]; kernel_rfl) ?_ ?_
        · intro wx hx ρ hρ hs hf
          have hρc := hρ.const
          have hρf := hρ.func
          obtain ⟨sn59, -⟩ := hs
          obtain ⟨fx16, -⟩ := hf
          rw [qs16] at fx16
          rw [place_at HVS.out (k := 59) rfl] at sn59
          replace sn59 : ρ (.tmp 157) = _ := sn59
          clear HCS HVS qs5 qs8 qs11 qs12 qs13 qs14 qs15 qs16 qs18 qs19 qs20 qs21 qs22
          first
            | (refine run_passed sn59 ?_
               exact detK.mk)
            | (refine run_guarded sn59 ?_
               refine op_move rfl fx16 ?_
               exact detK.mk)
        -- 65: slot 163 := Op.call { call ( 29), args := #[t161, t162, (i64 0)], argTypes := #[3, 3, 3] }
        refine sure_det (js := [(63, 161), (64, 162), (59, 157)]) (ts := []) (gd := (some (157, true))) (place_at HVS.out (k := 65) rfl) (by rw [HCS.out]; kernel_rfl) ?_ ?_
        · intro wx hx ρ hρ hs hf
          have hρc := hρ.const
          have hρf := hρ.func
          obtain ⟨sn63, sn64, sn59, -⟩ := hs
          rw [place_at HVS.out (k := 63) rfl] at sn63
          replace sn63 : ρ (.tmp 161) = _ := sn63
          rw [place_at HVS.out (k := 64) rfl] at sn64
          replace sn64 : ρ (.tmp 162) = _ := sn64
          rw [place_at HVS.out (k := 59) rfl] at sn59
          replace sn59 : ρ (.tmp 157) = _ := sn59
          clear hf
          clear HCS HVS qs5 qs8 qs11 qs12 qs13 qs14 qs15 qs16 qs18 qs19 qs20 qs21 qs22
          first
            | (refine run_passed sn59 ?_
               exact detK.mk)
            | (refine run_guarded sn59 ?_
               refine op_call rfl hρ Try.call29 (map_three sn63 sn64 (hρ.const _)) ?_
               first | ((with_reducible refine Calls.mono (cright_any _ _ _ _ _ _) ?_); rw [hright]; rintro e w' ⟨rfl, hx5⟩; refine ⟨_, rfl, ?_⟩; exact detK.ext hx5) | ((with_reducible refine Calls.mono (f0 _) ?_); rintro e w' ⟨rfl, rfl⟩; refine ⟨_, rfl, ?_⟩; exact detK.mk) | ((with_reducible refine Calls.mono (fn0 _) ?_); rintro e w' ⟨rfl, rfl⟩; refine ⟨_, rfl, ?_⟩; exact detK.mk) | ((with_reducible refine Calls.mono (fz _) ?_); rintro e w' ⟨rfl, rfl⟩; refine ⟨_, rfl, ?_⟩; exact detK.mk) | ((with_reducible refine Calls.mono (f1 _) ?_); rintro e w' ⟨rfl, rfl⟩; refine ⟨_, rfl, ?_⟩; exact detK.mk))
        -- 66: slot 164 := Op.binOp BinOp.eql 3 t160 t163 3
        refine sure_det (js := [(62, 160), (65, 163), (59, 157)]) (ts := []) (gd := (some (157, true))) (place_at HVS.out (k := 66) rfl) (by rw [HCS.out]; kernel_rfl) ?_ ?_
        · intro wx hx ρ hρ hs hf
          have hρc := hρ.const
          have hρf := hρ.func
          obtain ⟨sn62, sn65, sn59, -⟩ := hs
          rw [place_at HVS.out (k := 62) rfl] at sn62
          replace sn62 : ρ (.tmp 160) = _ := sn62
          rw [place_at HVS.out (k := 65) rfl] at sn65
          replace sn65 : ρ (.tmp 163) = _ := sn65
          rw [place_at HVS.out (k := 59) rfl] at sn59
          replace sn59 : ρ (.tmp 157) = _ := sn59
          clear hf
          clear HCS HVS qs5 qs8 qs11 qs12 qs13 qs14 qs15 qs16 qs18 qs19 qs20 qs21 qs22
          first
            | (refine run_passed sn59 ?_
               exact detK.mk)
            | (refine run_guarded sn59 ?_
               unfold runs
               go_simp
               exact detK.mk)
        -- 67: slot 165 := Op.pick t157 t164 ((Value.bool false))
        refine sure_det (js := [(59, 157), (66, 164)]) (ts := []) (gd := none) (place_at HVS.out (k := 67) rfl) (by rw [HCS.out]; kernel_rfl) ?_ ?_
        · intro wx hx ρ hρ hs hf
          have hρc := hρ.const
          have hρf := hρ.func
          obtain ⟨sn59, sn66, -⟩ := hs
          rw [place_at HVS.out (k := 59) rfl] at sn59
          replace sn59 : ρ (.tmp 157) = _ := sn59
          rw [place_at HVS.out (k := 66) rfl] at sn66
          replace sn66 : ρ (.tmp 164) = _ := sn66
          clear hf
          clear HCS HVS qs5 qs8 qs11 qs12 qs13 qs14 qs15 qs16 qs18 qs19 qs20 qs21 qs22
          refine run_plain ?_
          first | refine op_pick_t rfl sn59 sn66 ?_ | refine op_pick_f rfl sn59 (hρ.const _) ?_
          exact detK.mk
        -- 68: slot 166 := Op.move t165
        refine sure_det (js := [(67, 165)]) (ts := []) (gd := none) (place_at HVS.out (k := 68) rfl) (by rw [HCS.out]; kernel_rfl) ?_ ?_
        · intro wx hx ρ hρ hs hf
          have hρc := hρ.const
          have hρf := hρ.func
          obtain ⟨sn67, -⟩ := hs
          rw [place_at HVS.out (k := 67) rfl] at sn67
          replace sn67 : ρ (.tmp 165) = _ := sn67
          clear hf
          clear HCS HVS qs5 qs8 qs11 qs12 qs13 qs14 qs15 qs16 qs18 qs19 qs20 qs21 qs22
          refine run_plain ?_
          refine op_move rfl sn67 ?_
          exact detK.mk
        -- 69: slot 167 := Op.move t12
        refine sure_det (js := [(68, 166)]) (ts := [12]) (gd := (some (166, true))) (place_at HVS.out (k := 69) rfl) (by rw [HCS.out]; kernel_rfl) ?_ ?_
        · intro wx hx ρ hρ hs hf
          have hρc := hρ.const
          have hρf := hρ.func
          obtain ⟨sn68, -⟩ := hs
          obtain ⟨fx12, -⟩ := hf
          rw [qs12] at fx12
          rw [place_at HVS.out (k := 68) rfl] at sn68
          replace sn68 : ρ (.tmp 166) = _ := sn68
          clear HCS HVS qs5 qs8 qs11 qs12 qs13 qs14 qs15 qs16 qs18 qs19 qs20 qs21 qs22
          first
            | (refine run_passed sn68 ?_
               exact detK.mk)
            | (refine run_guarded sn68 ?_
               refine op_move rfl fx12 ?_
               exact detK.mk)
        -- 70: slot 168 := Op.move t13
        refine sure_det (js := [(68, 166)]) (ts := [13]) (gd := (some (166, true))) (place_at HVS.out (k := 70) rfl) (by rw [HCS.out]; kernel_rfl) ?_ ?_
        · intro wx hx ρ hρ hs hf
          have hρc := hρ.const
          have hρf := hρ.func
          obtain ⟨sn68, -⟩ := hs
          obtain ⟨fx13, -⟩ := hf
          rw [qs13] at fx13
          rw [place_at HVS.out (k := 68) rfl] at sn68
          replace sn68 : ρ (.tmp 166) = _ := sn68
          clear HCS HVS qs5 qs8 qs11 qs12 qs13 qs14 qs15 qs16 qs18 qs19 qs20 qs21 qs22
          first
            | (refine run_passed sn68 ?_
               exact detK.mk)
            | (refine run_guarded sn68 ?_
               refine op_move rfl fx13 ?_
               exact detK.mk)
        -- 71: slot 169 := Op.call { call ( 29), args := #[t167, t168, (i64 7)], argTypes := #[3, 3, 3] }
        refine sure_det (js := [(69, 167), (70, 168), (68, 166)]) (ts := []) (gd := (some (166, true))) (place_at HVS.out (k := 71) rfl) (by rw [HCS.out]; kernel_rfl) ?_ ?_
        · intro wx hx ρ hρ hs hf
          have hρc := hρ.const
          have hρf := hρ.func
          obtain ⟨sn69, sn70, sn68, -⟩ := hs
          rw [place_at HVS.out (k := 69) rfl] at sn69
          replace sn69 : ρ (.tmp 167) = _ := sn69
          rw [place_at HVS.out (k := 70) rfl] at sn70
          replace sn70 : ρ (.tmp 168) = _ := sn70
          rw [place_at HVS.out (k := 68) rfl] at sn68
          replace sn68 : ρ (.tmp 166) = _ := sn68
          clear hf
          clear HCS HVS qs5 qs8 qs11 qs12 qs13 qs14 qs15 qs16 qs18 qs19 qs20 qs21 qs22
          first
            | (refine run_passed sn68 ?_
               exact detK.mk)
            | (refine run_guarded sn68 ?_
               refine op_call rfl hρ Try.call29 (map_three sn69 sn70 (hρ.const _)) ?_
               first | ((with_reducible refine Calls.mono (cright_any _ _ _ _ _ _) ?_); rw [hright]; rintro e w' ⟨rfl, hx5⟩; refine ⟨_, rfl, ?_⟩; exact detK.ext hx5) | ((with_reducible refine Calls.mono (f0 _) ?_); rintro e w' ⟨rfl, rfl⟩; refine ⟨_, rfl, ?_⟩; exact detK.mk) | ((with_reducible refine Calls.mono (fn0 _) ?_); rintro e w' ⟨rfl, rfl⟩; refine ⟨_, rfl, ?_⟩; exact detK.mk) | ((with_reducible refine Calls.mono (fz _) ?_); rintro e w' ⟨rfl, rfl⟩; refine ⟨_, rfl, ?_⟩; exact detK.mk) | ((with_reducible refine Calls.mono (f1 _) ?_); rintro e w' ⟨rfl, rfl⟩; refine ⟨_, rfl, ?_⟩; exact detK.mk))
        -- 72: slot 170 := Op.fieldAddr 42 t14 2
        refine sure_det (js := [(68, 166)]) (ts := [14]) (gd := (some (166, true))) (place_at HVS.out (k := 72) rfl) (by rw [HCS.out]; kernel_rfl) ?_ ?_
        · intro wx hx ρ hρ hs hf
          have hρc := hρ.const
          have hρf := hρ.func
          obtain ⟨sn68, -⟩ := hs
          obtain ⟨fx14, -⟩ := hf
          rw [qs14] at fx14
          rw [place_at HVS.out (k := 68) rfl] at sn68
          replace sn68 : ρ (.tmp 166) = _ := sn68
          clear HCS HVS qs5 qs8 qs11 qs12 qs13 qs14 qs15 qs16 qs18 qs19 qs20 qs21 qs22
          first
            | (refine run_passed sn68 ?_
               exact detK.mk)
            | (refine run_guarded sn68 ?_
               unfold runs
               go_simp
               exact detK.mk)
        -- 73: slot 171 := Op.load 28 t170
        refine sure_det (js := [(72, 170), (68, 166)]) (ts := []) (gd := (some (166, true))) (place_at HVS.out (k := 73) rfl) (by rw [HCS.out]; kernel_rfl) ?_ ?_
        · intro wx hx ρ hρ hs hf
          have hρc := hρ.const
          have hρf := hρ.func
          obtain ⟨sn72, sn68, -⟩ := hs
          rw [place_at HVS.out (k := 72) rfl] at sn72
          replace sn72 : ρ (.tmp 170) = _ := sn72
          rw [place_at HVS.out (k := 68) rfl] at sn68
          replace sn68 : ρ (.tmp 166) = _ := sn68
          clear hf
          clear HCS HVS qs5 qs8 qs11 qs12 qs13 qs14 qs15 qs16 qs18 qs19 qs20 qs21 qs22
          first
            | (refine run_passed sn68 ?_
               exact detK.mk)
            | (refine run_guarded sn68 ?_
               obtain ⟨m0, m1, m2⟩ := hall wx hx
               unfold runs
               go_simp
               exact detK.mk)
        -- 74: slot 172 := Op.call { len, args := #[t171], argTypes := #[28] }
        refine sure_det (js := [(73, 171), (68, 166)]) (ts := []) (gd := (some (166, true))) (place_at HVS.out (k := 74) rfl) (by rw [HCS.out]; kernel_rfl) ?_ ?_
        · intro wx hx ρ hρ hs hf
          have hρc := hρ.const
          have hρf := hρ.func
          obtain ⟨sn73, sn68, -⟩ := hs
          rw [place_at HVS.out (k := 73) rfl] at sn73
          replace sn73 : ρ (.tmp 171) = _ := sn73
          rw [place_at HVS.out (k := 68) rfl] at sn68
          replace sn68 : ρ (.tmp 166) = _ := sn68
          clear hf
          clear HCS HVS qs5 qs8 qs11 qs12 qs13 qs14 qs15 qs16 qs18 qs19 qs20 qs21 qs22
          first
            | (refine run_passed sn68 ?_
               exact detK.mk)
            | (refine run_guarded sn68 ?_
               unfold runs
               go_simp
               exact detK.mk)
        -- 75: slot 173 := Op.binOp BinOp.sub 3 t172 ((i64 1)) 3
        refine sure_det (js := [(74, 172), (68, 166)]) (ts := []) (gd := (some (166, true))) (place_at HVS.out (k := 75) rfl) (by rw [HCS.out]; kernel_rfl) ?_ ?_
        · intro wx hx ρ hρ hs hf
          have hρc := hρ.const
          have hρf := hρ.func
          obtain ⟨sn74, sn68, -⟩ := hs
          rw [place_at HVS.out (k := 74) rfl] at sn74
          replace sn74 : ρ (.tmp 172) = _ := sn74
          rw [place_at HVS.out (k := 68) rfl] at sn68
          replace sn68 : ρ (.tmp 166) = _ := sn68
          clear hf
          clear HCS HVS qs5 qs8 qs11 qs12 qs13 qs14 qs15 qs16 qs18 qs19 qs20 qs21 qs22
          first
            | (refine run_passed sn68 ?_
               exact detK.mk)
            | (refine run_guarded sn68 ?_
               unfold runs
               go_simp
               exact detK.mk)
        -- 76: slot 174 := Op.binOp BinOp.eql 3 t169 t173 3
        refine sure_det (js := [(71, 169), (75, 173), (68, 166)]) (ts := []) (gd := (some (166, true))) (place_at HVS.out (k := 76) rfl) (by rw [HCS.out]; kernel_rfl) ?_ ?_
        · intro wx hx ρ hρ hs hf
          have hρc := hρ.const
          have hρf := hρ.func
          obtain ⟨sn71, sn75, sn68, -⟩ := hs
          rw [place_at HVS.out (k := 71) rfl] at sn71
          replace sn71 : ρ (.tmp 169) = _ := sn71
          rw [place_at HVS.out (k := 75) rfl] at sn75
          replace sn75 : ρ (.tmp 173) = _ := sn75
          rw [place_at HVS.out (k := 68) rfl] at sn68
          replace sn68 : ρ (.tmp 166) = _ := sn68
          clear hf
          clear HCS HVS qs5 qs8 qs11 qs12 qs13 qs14 qs15 qs16 qs18 qs19 qs20 qs21 qs22
          first
            | (refine run_passed sn68 ?_
               exact detK.mk)
            | (refine run_guarded sn68 ?_
               unfold runs
               go_simp
               exact detK.mk)
        -- 77: slot 175 := Op.pick t166 t174 ((Value.bool false))
        refine sure_det (js := [(68, 166), (76, 174)]) (ts := []) (gd := none) (place_at HVS.out (k := 77) rfl) (by rw [HCS.out]; kernel_rfl) ?_ ?_
        · intro wx hx ρ hρ hs hf
          have hρc := hρ.const
          have hρf := hρ.func
          obtain ⟨sn68, sn76, -⟩ := hs
          rw [place_at HVS.out (k := 68) rfl] at sn68
          replace sn68 : ρ (.tmp 166) = _ := sn68
          rw [place_at HVS.out (k := 76) rfl] at sn76
          replace sn76 : ρ (.tmp 174) = _ := sn76
          clear hf
          clear HCS HVS qs5 qs8 qs11 qs12 qs13 qs14 qs15 qs16 qs18 qs19 qs20 qs21 qs22
          refine run_plain ?_
          first | refine op_pick_t rfl sn68 sn76 ?_ | refine op_pick_f rfl sn68 (hρ.const _) ?_
          exact detK.mk
        -- 78: slot 176 := Op.move t175
        refine sure_det (js := [(77, 175)]) (ts := []) (gd := none) (place_at HVS.out (k := 78) rfl) (by rw [HCS.out]; kernel_rfl) ?_ ?_
        · intro wx hx ρ hρ hs hf
          have hρc := hρ.const
          have hρf := hρ.func
          obtain ⟨sn77, -⟩ := hs
          rw [place_at HVS.out (k := 77) rfl] at sn77
          replace sn77 : ρ (.tmp 175) = _ := sn77
          clear hf
          clear HCS HVS qs5 qs8 qs11 qs12 qs13 qs14 qs15 qs16 qs18 qs19 qs20 qs21 qs22
          refine run_plain ?_
          refine op_move rfl sn77 ?_
          exact detK.mk
        -- 79: slot 177 := Op.move t12
        refine sure_det (js := [(78, 176)]) (ts := [12]) (gd := (some (176, true))) (place_at HVS.out (k := 79) rfl) (by rw [HCS.out]; kernel_rfl) ?_ ?_
        · intro wx hx ρ hρ hs hf
          have hρc := hρ.const
          have hρf := hρ.func
          obtain ⟨sn78, -⟩ := hs
          obtain ⟨fx12, -⟩ := hf
          rw [qs12] at fx12
          rw [place_at HVS.out (k := 78) rfl] at sn78
          replace sn78 : ρ (.tmp 176) = _ := sn78
          clear HCS HVS qs5 qs8 qs11 qs12 qs13 qs14 qs15 qs16 qs18 qs19 qs20 qs21 qs22
          first
            | (refine run_passed sn78 ?_
               exact detK.mk)
            | (refine run_guarded sn78 ?_
               refine op_move rfl fx12 ?_
               exact detK.mk)
        -- 80: slot 178 := Op.call { call ( 29), args := #[t177, (i64 1), (i64 0)], argTypes := #[3, 3, 3] }
        refine sure_det (js := [(79, 177), (78, 176)]) (ts := []) (gd := (some (176, true))) (place_at HVS.out (k := 80) rfl) (by rw [HCS.out]; kernel_rfl) ?_ ?_
        · intro wx hx ρ hρ hs hf
          have hρc := hρ.const
          have hρf := hρ.func
          obtain ⟨sn79, sn78, -⟩ := hs
          rw [place_at HVS.out (k := 79) rfl] at sn79
          replace sn79 : ρ (.tmp 177) = _ := sn79
          rw [place_at HVS.out (k := 78) rfl] at sn78
          replace sn78 : ρ (.tmp 176) = _ := sn78
          clear hf
          clear HCS HVS qs5 qs8 qs11 qs12 qs13 qs14 qs15 qs16 qs18 qs19 qs20 qs21 qs22
          first
            | (refine run_passed sn78 ?_
               exact detK.mk)
            | (refine run_guarded sn78 ?_
               refine op_call rfl hρ Try.call29 (map_three sn79 (hρ.const _) (hρ.const _)) ?_
               first | ((with_reducible refine Calls.mono (cright_any _ _ _ _ _ _) ?_); rw [hright]; rintro e w' ⟨rfl, hx5⟩; refine ⟨_, rfl, ?_⟩; exact detK.ext hx5) | ((with_reducible refine Calls.mono (f0 _) ?_); rintro e w' ⟨rfl, rfl⟩; refine ⟨_, rfl, ?_⟩; exact detK.mk) | ((with_reducible refine Calls.mono (fn0 _) ?_); rintro e w' ⟨rfl, rfl⟩; refine ⟨_, rfl, ?_⟩; exact detK.mk) | ((with_reducible refine Calls.mono (fz _) ?_); rintro e w' ⟨rfl, rfl⟩; refine ⟨_, rfl, ?_⟩; exact detK.mk) | ((with_reducible refine Calls.mono (f1 _) ?_); rintro e w' ⟨rfl, rfl⟩; refine ⟨_, rfl, ?_⟩; exact detK.mk))
        -- 81: slot 179 := Op.move t12
        refine sure_det (js := [(78, 176)]) (ts := [12]) (gd := (some (176, true))) (place_at HVS.out (k := 81) rfl) (by rw [HCS.out]; kernel_rfl) ?_ ?_
        · intro wx hx ρ hρ hs hf
          have hρc := hρ.const
          have hρf := hρ.func
          obtain ⟨sn78, -⟩ := hs
          obtain ⟨fx12, -⟩ := hf
          rw [qs12] at fx12
          rw [place_at HVS.out (k := 78) rfl] at sn78
          replace sn78 : ρ (.tmp 176) = _ := sn78
          clear HCS HVS qs5 qs8 qs11 qs12 qs13 qs14 qs15 qs16 qs18 qs19 qs20 qs21 qs22
          first
            | (refine run_passed sn78 ?_
               exact detK.mk)
            | (refine run_guarded sn78 ?_
               refine op_move rfl fx12 ?_
               exact detK.mk)
        -- 82: slot 180 := Op.binOp BinOp.add 3 ((i64 8)) t179 3
        refine sure_det (js := [(81, 179), (78, 176)]) (ts := []) (gd := (some (176, true))) (place_at HVS.out (k := 82) rfl) (by rw [HCS.out]; kernel_rfl) ?_ ?_
        · intro wx hx ρ hρ hs hf
          have hρc := hρ.const
          have hρf := hρ.func
          obtain ⟨sn81, sn78, -⟩ := hs
          rw [place_at HVS.out (k := 81) rfl] at sn81
          replace sn81 : ρ (.tmp 179) = _ := sn81
          rw [place_at HVS.out (k := 78) rfl] at sn78
          replace sn78 : ρ (.tmp 176) = _ := sn78
          clear hf
          clear HCS HVS qs5 qs8 qs11 qs12 qs13 qs14 qs15 qs16 qs18 qs19 qs20 qs21 qs22
          first
            | (refine run_passed sn78 ?_
               exact detK.mk)
            | (refine run_guarded sn78 ?_
               unfold runs
               go_simp
               exact detK.mk)
        -- 83: slot 181 := Op.binOp BinOp.eql 3 t178 t180 3
        refine sure_det (js := [(80, 178), (82, 180), (78, 176)]) (ts := []) (gd := (some (176, true))) (place_at HVS.out (k := 83) rfl) (by rw [HCS.out]; kernel_rfl) ?_ ?_
        · intro wx hx ρ hρ hs hf
          have hρc := hρ.const
          have hρf := hρ.func
          obtain ⟨sn80, sn82, sn78, -⟩ := hs
          rw [place_at HVS.out (k := 80) rfl] at sn80
          replace sn80 : ρ (.tmp 178) = _ := sn80
          rw [place_at HVS.out (k := 82) rfl] at sn82
          replace sn82 : ρ (.tmp 180) = _ := sn82
          rw [place_at HVS.out (k := 78) rfl] at sn78
          replace sn78 : ρ (.tmp 176) = _ := sn78
          clear hf
          clear HCS HVS qs5 qs8 qs11 qs12 qs13 qs14 qs15 qs16 qs18 qs19 qs20 qs21 qs22
          first
            | (refine run_passed sn78 ?_
               exact detK.mk)
            | (refine run_guarded sn78 ?_
               unfold runs
               go_simp
               exact detK.mk)
        -- 84: slot 182 := Op.pick t176 t181 ((Value.bool false))
        refine sure_det (js := [(78, 176), (83, 181)]) (ts := []) (gd := none) (place_at HVS.out (k := 84) rfl) (by rw [HCS.out]; kernel_rfl) ?_ ?_
        · intro wx hx ρ hρ hs hf
          have hρc := hρ.const
          have hρf := hρ.func
          obtain ⟨sn78, sn83, -⟩ := hs
          rw [place_at HVS.out (k := 78) rfl] at sn78
          replace sn78 : ρ (.tmp 176) = _ := sn78
          rw [place_at HVS.out (k := 83) rfl] at sn83
          replace sn83 : ρ (.tmp 181) = _ := sn83
          clear hf
          clear HCS HVS qs5 qs8 qs11 qs12 qs13 qs14 qs15 qs16 qs18 qs19 qs20 qs21 qs22
          refine run_plain ?_
          first | refine op_pick_t rfl sn78 sn83 ?_ | refine op_pick_f rfl sn78 (hρ.const _) ?_
          exact detK.mk
        -- 85: slot 2 := Op.assign t182
        refine sure_det (js := [(84, 182)]) (ts := []) (gd := none) (place_at HVS.out (k := 85) rfl) (by rw [HCS.out]; kernel_rfl) ?_ ?_
        · intro wx hx ρ hρ hs hf
          have hρc := hρ.const
          have hρf := hρ.func
          obtain ⟨sn84, -⟩ := hs
          rw [place_at HVS.out (k := 84) rfl] at sn84
          replace sn84 : ρ (.tmp 182) = _ := sn84
          clear hf
          clear HCS HVS qs5 qs8 qs11 qs12 qs13 qs14 qs15 qs16 qs18 qs19 qs20 qs21 qs22
          refine run_plain ?_
          refine op_assign rfl sn84 ?_
          exact detK.mk
        exact trivial
      case hend =>
        intro xs wx hx hg
        have gk0 : xs 0 = _ := goods_get hg (i := 0) (j := 0) (d := 98) rfl
        have gk1 : xs 1 = _ := goods_get hg (i := 1) (j := 1) (d := 99) rfl
        have gk2 : xs 2 = _ := goods_get hg (i := 2) (j := 2) (d := 100) rfl
        have gk3 : xs 3 = _ := goods_get hg (i := 3) (j := 3) (d := 101) rfl
        have gk4 : xs 4 = _ := goods_get hg (i := 4) (j := 4) (d := 102) rfl
        have gk5 : xs 5 = _ := goods_get hg (i := 5) (j := 5) (d := 103) rfl
        have gk6 : xs 6 = _ := goods_get hg (i := 6) (j := 6) (d := 104) rfl
        have gk7 : xs 7 = _ := goods_get hg (i := 7) (j := 7) (d := 105) rfl
        have gk8 : xs 8 = _ := goods_get hg (i := 8) (j := 8) (d := 106) rfl
        have gk9 : xs 9 = _ := goods_get hg (i := 9) (j := 9) (d := 107) rfl
        have gk10 : xs 10 = _ := goods_get hg (i := 10) (j := 10) (d := 108) rfl
        have gk11 : xs 11 = _ := goods_get hg (i := 11) (j := 11) (d := 109) rfl
        have gk12 : xs 12 = _ := goods_get hg (i := 12) (j := 12) (d := 110) rfl
        have gk13 : xs 13 = _ := goods_get hg (i := 13) (j := 13) (d := 111) rfl
        have gk14 : xs 14 = _ := goods_get hg (i := 14) (j := 14) (d := 112) rfl
        have gk15 : xs 15 = _ := goods_get hg (i := 15) (j := 15) (d := 113) rfl
        have gk16 : xs 16 = _ := goods_get hg (i := 16) (j := 16) (d := 114) rfl
        have gk17 : xs 17 = _ := goods_get hg (i := 17) (j := 17) (d := 115) rfl
        have gk18 : xs 18 = _ := goods_get hg (i := 18) (j := 18) (d := 116) rfl
        have gk19 : xs 19 = _ := goods_get hg (i := 19) (j := 19) (d := 117) rfl
        have gk20 : xs 20 = _ := goods_get hg (i := 20) (j := 20) (d := 118) rfl
        have gk21 : xs 21 = _ := goods_get hg (i := 21) (j := 21) (d := 119) rfl
        have gk22 : xs 22 = _ := goods_get hg (i := 22) (j := 22) (d := 120) rfl
        have gk23 : xs 23 = _ := goods_get hg (i := 23) (j := 23) (d := 121) rfl
        have gk24 : xs 24 = _ := goods_get hg (i := 24) (j := 24) (d := 122) rfl
        have gk25 : xs 25 = _ := goods_get hg (i := 25) (j := 25) (d := 123) rfl
        have gk26 : xs 26 = _ := goods_get hg (i := 26) (j := 26) (d := 124) rfl
        have gk27 : xs 27 = _ := goods_get hg (i := 27) (j := 27) (d := 125) rfl
        have gk28 : xs 28 = _ := goods_get hg (i := 28) (j := 28) (d := 126) rfl
        have gk29 : xs 29 = _ := goods_get hg (i := 29) (j := 29) (d := 127) rfl
        have gk30 : xs 30 = _ := goods_get hg (i := 30) (j := 30) (d := 128) rfl
        have gk31 : xs 31 = _ := goods_get hg (i := 31) (j := 31) (d := 129) rfl
        have gk32 : xs 32 = _ := goods_get hg (i := 32) (j := 32) (d := 130) rfl
        have gk33 : xs 33 = _ := goods_get hg (i := 33) (j := 33) (d := 131) rfl
        have gk34 : xs 34 = _ := goods_get hg (i := 34) (j := 34) (d := 132) rfl
        have gk35 : xs 35 = _ := goods_get hg (i := 35) (j := 35) (d := 133) rfl
        have gk36 : xs 36 = _ := goods_get hg (i := 36) (j := 36) (d := 134) rfl
        have gk37 : xs 37 = _ := goods_get hg (i := 37) (j := 37) (d := 135) rfl
        have gk38 : xs 38 = _ := goods_get hg (i := 38) (j := 38) (d := 136) rfl
        have gk39 : xs 39 = _ := goods_get hg (i := 39) (j := 39) (d := 137) rfl
        have gk40 : xs 40 = _ := goods_get hg (i := 40) (j := 40) (d := 138) rfl
        have gk41 : xs 41 = _ := goods_get hg (i := 41) (j := 41) (d := 139) rfl
        have gk42 : xs 42 = _ := goods_get hg (i := 42) (j := 42) (d := 140) rfl
        have gk43 : xs 43 = _ := goods_get hg (i := 43) (j := 43) (d := 141) rfl
        have gk44 : xs 44 = _ := goods_get hg (i := 44) (j := 44) (d := 142) rfl
        have gk45 : xs 45 = _ := goods_get hg (i := 45) (j := 45) (d := 143) rfl
        have gk46 : xs 46 = _ := goods_get hg (i := 46) (j := 46) (d := 144) rfl
        have gk47 : xs 47 = _ := goods_get hg (i := 47) (j := 47) (d := 145) rfl
        have gk48 : xs 48 = _ := goods_get hg (i := 48) (j := 48) (d := 146) rfl
        have gk49 : xs 49 = _ := goods_get hg (i := 49) (j := 49) (d := 147) rfl
        have gk50 : xs 50 = _ := goods_get hg (i := 50) (j := 50) (d := 148) rfl
        have gk51 : xs 51 = _ := goods_get hg (i := 51) (j := 51) (d := 149) rfl
        have gk52 : xs 52 = _ := goods_get hg (i := 52) (j := 52) (d := 150) rfl
        have gk53 : xs 53 = _ := goods_get hg (i := 53) (j := 53) (d := 151) rfl
        have gk54 : xs 54 = _ := goods_get hg (i := 54) (j := 54) (d := 152) rfl
        have gk55 : xs 55 = _ := goods_get hg (i := 55) (j := 55) (d := 153) rfl
        have gk56 : xs 56 = _ := goods_get hg (i := 56) (j := 56) (d := 154) rfl
        have gk57 : xs 57 = _ := goods_get hg (i := 57) (j := 57) (d := 155) rfl
        have gk58 : xs 58 = _ := goods_get hg (i := 58) (j := 58) (d := 156) rfl
        have gk59 : xs 59 = _ := goods_get hg (i := 59) (j := 59) (d := 157) rfl
        have gk60 : xs 60 = _ := goods_get hg (i := 60) (j := 60) (d := 158) rfl
        have gk61 : xs 61 = _ := goods_get hg (i := 61) (j := 61) (d := 159) rfl
        have gk62 : xs 62 = _ := goods_get hg (i := 62) (j := 62) (d := 160) rfl
        have gk63 : xs 63 = _ := goods_get hg (i := 63) (j := 63) (d := 161) rfl
        have gk64 : xs 64 = _ := goods_get hg (i := 64) (j := 64) (d := 162) rfl
        have gk65 : xs 65 = _ := goods_get hg (i := 65) (j := 65) (d := 163) rfl
        have gk66 : xs 66 = _ := goods_get hg (i := 66) (j := 66) (d := 164) rfl
        have gk67 : xs 67 = _ := goods_get hg (i := 67) (j := 67) (d := 165) rfl
        have gk68 : xs 68 = _ := goods_get hg (i := 68) (j := 68) (d := 166) rfl
        have gk69 : xs 69 = _ := goods_get hg (i := 69) (j := 69) (d := 167) rfl
        have gk70 : xs 70 = _ := goods_get hg (i := 70) (j := 70) (d := 168) rfl
        have gk71 : xs 71 = _ := goods_get hg (i := 71) (j := 71) (d := 169) rfl
        have gk72 : xs 72 = _ := goods_get hg (i := 72) (j := 72) (d := 170) rfl
        have gk73 : xs 73 = _ := goods_get hg (i := 73) (j := 73) (d := 171) rfl
        have gk74 : xs 74 = _ := goods_get hg (i := 74) (j := 74) (d := 172) rfl
        have gk75 : xs 75 = _ := goods_get hg (i := 75) (j := 75) (d := 173) rfl
        have gk76 : xs 76 = _ := goods_get hg (i := 76) (j := 76) (d := 174) rfl
        have gk77 : xs 77 = _ := goods_get hg (i := 77) (j := 77) (d := 175) rfl
        have gk78 : xs 78 = _ := goods_get hg (i := 78) (j := 78) (d := 176) rfl
        have gk79 : xs 79 = _ := goods_get hg (i := 79) (j := 79) (d := 177) rfl
        have gk80 : xs 80 = _ := goods_get hg (i := 80) (j := 80) (d := 178) rfl
        have gk81 : xs 81 = _ := goods_get hg (i := 81) (j := 81) (d := 179) rfl
        have gk82 : xs 82 = _ := goods_get hg (i := 82) (j := 82) (d := 180) rfl
        have gk83 : xs 83 = _ := goods_get hg (i := 83) (j := 83) (d := 181) rfl
        have gk84 : xs 84 = _ := goods_get hg (i := 84) (j := 84) (d := 182) rfl
        have gk85 : xs 85 = _ := goods_get hg (i := 85) (j := 85) (d := 2) rfl
        clear hg
        simp only [putAll, gk0, gk1, gk2, gk3, gk4, gk5, gk6, gk7, gk8, gk9, gk10, gk11, gk12, gk13, gk14, gk15, gk16, gk17, gk18, gk19, gk20, gk21, gk22, gk23, gk24, gk25, gk26, gk27, gk28, gk29, gk30, gk31, gk32, gk33, gk34, gk35, gk36, gk37, gk38, gk39, gk40, gk41, gk42, gk43, gk44, gk45, gk46, gk47, gk48, gk49, gk50, gk51, gk52, gk53, gk54, gk55, gk56, gk57, gk58, gk59, gk60, gk61, gk62, gk63, gk64, gk65, gk66, gk67, gk68, gk69, gk70, gk71, gk72, gk73, gk74, gk75, gk76, gk77, gk78, gk79, gk80, gk81, gk82, gk83, gk84, gk85]
        clear gk0 gk1 gk2 gk3 gk4 gk5 gk6 gk7 gk8 gk9 gk10 gk11 gk12 gk13 gk14 gk15 gk16 gk17 gk18 gk19 gk20 gk21 gk22 gk23 gk24 gk25 gk26 gk27 gk28 gk29 gk30 gk31 gk32 gk33 gk34 gk35 gk36 gk37 gk38 gk39 gk40 gk41 gk42 gk43 gk44 gk45 gk46 gk47 gk48 gk49 gk50 gk51 gk52 gk53 gk54 gk55 gk56 gk57 gk58 gk59 gk60 gk61 gk62 gk63 gk64 gk65 gk66 gk67 gk68 gk69 gk70 gk71 gk72 gk73 gk74 gk75 gk76 gk77 gk78 gk79 gk80 gk81 gk82 gk83 gk84 gk85
        clear xs
        simp only [Act.put, List.setIfInBounds_toArray, List.set_cons_zero, List.set_cons_succ]
        go_wp2
        go_ret
        exact ⟨rfl, hE.trans hx.drawn⟩
set_option maxRecDepth 1000000 in
theorem open_apart {H : Type} {enc : TypeId × Value → H} {w : World} {base : Nat} {b0 : Nat} {v : Value} {d : DataW H} {p : List MemPlace} (hv : Value.okWide Try.prog w .any b0 57 v) (h : DataW.Trod enc Try.prog w base (fun _ => true) true 57 v d p) :
    ∃ a b c e f g i j : Nat, v = .agg #[.int .u8 a, .int .u16 b, .int .u8 c, .int .u16 e, .int .u8 f, .int .u8 g, .int .u16 i, .int .u8 j] ∧ a < 256 ∧ b < 65536 ∧ c < 256 ∧ e < 65536 ∧ f < 256 ∧ g < 256 ∧ i < 65536 ∧ j < 256 := by
  obtain ⟨l, xs, m, rfl, hl, rfl, _, _, hf⟩ := open_struct Try.underlying57 hv h
  rw [show Try.prog.cellsOf 57 = 8 by kernel_rfl] at hl
  match l, hl with
  | [x0, x1, x2, x3, x4, x5, x6, x7], _ =>
  obtain ⟨_, _, t0⟩ := hf 0 _ rfl
  obtain ⟨z0, e0, _, w0⟩ := DataW.trod_int Try.underlying5 t0
  have b0 := wf_u8 w0
  obtain ⟨n0, rfl⟩ := Int.eq_ofNat_of_zero_le b0.1
  obtain ⟨_, _, t1⟩ := hf 1 _ rfl
  obtain ⟨z1, e1, _, w1⟩ := DataW.trod_int Try.underlying43 t1
  have b1 := wf_u16 w1
  obtain ⟨n1, rfl⟩ := Int.eq_ofNat_of_zero_le b1.1
  obtain ⟨_, _, t2⟩ := hf 2 _ rfl
  obtain ⟨z2, e2, _, w2⟩ := DataW.trod_int Try.underlying5 t2
  have b2 := wf_u8 w2
  obtain ⟨n2, rfl⟩ := Int.eq_ofNat_of_zero_le b2.1
  obtain ⟨_, _, t3⟩ := hf 3 _ rfl
  obtain ⟨z3, e3, _, w3⟩ := DataW.trod_int Try.underlying43 t3
  have b3 := wf_u16 w3
  obtain ⟨n3, rfl⟩ := Int.eq_ofNat_of_zero_le b3.1
  obtain ⟨_, _, t4⟩ := hf 4 _ rfl
  obtain ⟨z4, e4, _, w4⟩ := DataW.trod_int Try.underlying5 t4
  have b4 := wf_u8 w4
  obtain ⟨n4, rfl⟩ := Int.eq_ofNat_of_zero_le b4.1
  obtain ⟨_, _, t5⟩ := hf 5 _ rfl
  obtain ⟨z5, e5, _, w5⟩ := DataW.trod_int Try.underlying5 t5
  have b5 := wf_u8 w5
  obtain ⟨n5, rfl⟩ := Int.eq_ofNat_of_zero_le b5.1
  obtain ⟨_, _, t6⟩ := hf 6 _ rfl
  obtain ⟨z6, e6, _, w6⟩ := DataW.trod_int Try.underlying43 t6
  have b6 := wf_u16 w6
  obtain ⟨n6, rfl⟩ := Int.eq_ofNat_of_zero_le b6.1
  obtain ⟨_, _, t7⟩ := hf 7 _ rfl
  obtain ⟨z7, e7, _, w7⟩ := DataW.trod_int Try.underlying5 t7
  have b7 := wf_u8 w7
  obtain ⟨n7, rfl⟩ := Int.eq_ofNat_of_zero_le b7.1
  simp [show Try.prog.cellsOf 5 = 1 by kernel_rfl, show Try.prog.cellsOf 43 = 1 by kernel_rfl] at e0 e1 e2 e3 e4 e5 e6 e7
  subst e0 e1 e2 e3 e4 e5 e6 e7
  exact ⟨n0, n1, n2, n3, n4, n5, n6, n7, rfl, by omega, by omega, by omega, by omega, by omega, by omega, by omega, by omega⟩
set_option maxRecDepth 100000 in
theorem CellApart_lifted (os : Os) (started : os.Started) (H : Type) (enc : TypeId × Value → H) :
    ReturnsInHanded {} Try.checked os 6 .any (Rows.cellApartSpec.pre6 enc Try.prog Try.f6 Rows.cellApartRow.domain false) (Rows.cellApartSpec.post enc Try.prog Try.f6 false true false false) := by
  refine law_row os started H enc Rows.cellApartSpec rfl (fun ds h => by
    match ds, h with
    | [_], _ => rfl) (by kernel_rfl) Try.func6 rfl
    (by rw [Try.params6]; intro t ht; simp at ht; subst ht; exact ⟨by kernel_rfl, of_decide_eq_true (by kernel_rfl)⟩)
    (ChangeSpec.witness6 (enc := enc) (C := Try.checked) false ⟨#[], #[.agg #[.int .u8 0, .int .u16 0, .int .u8 0, .int .u16 0, .int .u8 0, .int .u8 0, .int .u16 0, .int .u8 0]], []⟩ 8 (by kernel_rfl) (by kernel_rfl) (by kernel_rfl) (by kernel_rfl)) ?_
  intro W base args ds ps hval hA hlt
  rw [Try.params6] at hA hval
  obtain ⟨v0, d0, rfl, rfl, h0⟩ := trodAll_one hA
  obtain ⟨a, b, c, e, f, g, i, j, rfl, h1, h2, h3, h4, h5, h6, h7, h8⟩ := open_apart (hval 0 _ v0 rfl rfl) h0
  exact apart_walk a b c e f g i j h1 h2 h3 h4 h5 h6 h7 h8 W
theorem CellApart_holds : Rows.CellApartSaid :=
  OpenClaim.holds_of_wide 6 Try.f6 rfl rfl rfl rfl rfl rfl rfl ⟨rfl, rfl, rfl, rfl, rfl⟩ rfl rfl rfl rfl rfl (by kernel_rfl) Try.func6 (by kernel_rfl)
    (of_decide_eq_true (by kernel_rfl)) (by unfold Func.isWrapper; rw [if_neg (of_decide_eq_false (by kernel_rfl))]; exact ⟨rfl, rfl⟩)
    (fun os started H enc _ => CellApart_lifted os started H enc)
#print axioms CellApart_holds
end Go.Proofs.Ythgcpfofdbdkpaa
