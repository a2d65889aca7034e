import Derived.Test.YthgcpfofdbdkpaaDiskApartL
namespace Go.Proofs.Ythgcpfofdbdkpaa
open Go.ChangeShapes Go.WideShapes Go.ChangeAt Go.RowKit

set_option maxRecDepth 100000 in
set_option maxHeartbeats 16000000 in
theorem dapart_walk0 (R : Int) (A0 A1 : Option Addr) (n0 c0 n1 c1 : Nat) (l0 l1 : List St) (rn iN : Nat) (B : Option Addr) (m cb : Nat) (bs : List UInt8) (nr : Int) (M : Option Addr) (nM cM : Nat) (ms : List Int) (w : World) (h0 : RowV w A0 n0 c0 l0) (h1 : RowV w A1 n1 c1 l1) (hrn : rn < 256) (hin : iN < 256) (hB : BytesV w B m cb bs) (hM : IntsV w M nM cM ms) (hr2 : rn % 2 = 0)
  (hz0 : ∀ s ∈ l0, s.q ≤ 140737488351232) (hz1 : ∀ s ∈ l1, s.q ≤ 140737488351232) :
  Calls Try.prog 11 #[.agg #[.int .u64 R, .slice A0 n0 c0, .slice A1 n1 c1, .int .u8 rn, .int .u8 iN, .slice B m cb, .int .u64 nr, .slice M nM cM]] w fun e w' => e = .returned (.bool true) ∧ Ext w w' := by
 obtain ⟨i0, hi0, -, -, -⟩ := info_parts info_u8
 have ht1 : IntKind.i64.wrap (rn : Int) = (rn : Int) := by rw [IntKind.wrap_i64]; omega
 have ht2 : Int.tmod (rn : Int) 2 = ((rn % 2 : Nat) : Int) := by rw [Int.tmod_eq_emod_of_nonneg (by omega)]; omega
 have hi1 : IntKind.i64.wrap (iN : Int) = (iN : Int) := by rw [IntKind.wrap_i64]; omega
 have hi2 : Int.tmod (iN : Int) (n0 : Int) = ((iN % n0 : Nat) : Int) := by rw [Int.tmod_eq_emod_of_nonneg (by omega)]; omega
 have hmw : IntKind.i64.wrap (m : Int) = (m : Int) := by have := Nat.le_trans hB.le hB.cap; simp only [maxLen] at this; rw [IntKind.wrap_i64]; omega
 go_enter Try.func11, Try.ntmps11
 go_upto_region 7 with (fail)
 obtain ⟨hW, -, hda⟩ := two_boxes7 w (.cells #[.int .u64 R, .slice A0 n0 c0, .slice A1 n1 c1, .int .u8 rn, .int .u8 iN, .slice B m cb, .int .u64 nr, .slice M nM cM] 92) (.cells #[.int .u64 R, .slice A0 n0 c0, .slice A1 n1 c1] 69)
 generalize (w.alloc (.cells #[.int .u64 R, .slice A0 n0 c0, .slice A1 n1 c1, .int .u8 rn, .int .u8 iN, .slice B m cb, .int .u64 nr, .slice M nM cM] 92)).alloc (.cells #[.int .u64 R, .slice A0 n0 c0, .slice A1 n1 c1] 69) = W at *
 generalize w.heap.size + 1 = ga at *
 go_wp2_with fail
 refine (shown7_any _).mono ?_
 rintro e w1 ⟨rfl, hx1⟩
 replace hW := hW.trans hx1
 replace hda := heap_ext hda hx1
 clear hx1
 have a0 : w1.cell? ⟨ga, 0, none⟩ = some (.int .u64 R) := by simp [World.cell?, hda]
 have a1 : w1.cell? ⟨ga, 1, none⟩ = some (.slice A0 n0 c0) := by simp [World.cell?, hda]
 have a2 : w1.cell? ⟨ga, 2, none⟩ = some (.slice A1 n1 c1) := by simp [World.cell?, hda]
 go_wp2_with fail
 refine (few7_sum R A0 A1 n0 c0 n1 c1 l0 l1 _ (h0.ext hW) (h1.ext hW) hz0 hz1).mono ?_
 rintro e w2 ⟨⟨b1, rfl, hf⟩, hx2⟩
 replace hW := hW.trans hx2
 replace hda := heap_ext hda hx2
 clear hx2 a0 a1 a2
 cases b1 with
 | false =>
  go_wp2
  go_ret
  exact ⟨rfl, hW⟩
 | true =>
  obtain ⟨hf0, hf1, hf2⟩ := hf rfl
  have a0 : w2.cell? ⟨ga, 0, none⟩ = some (.int .u64 R) := by simp [World.cell?, hda]
  have a1 : w2.cell? ⟨ga, 1, none⟩ = some (.slice A0 n0 c0) := by simp [World.cell?, hda]
  have a2 : w2.cell? ⟨ga, 2, none⟩ = some (.slice A1 n1 c1) := by simp [World.cell?, hda]
  go_wp2_with fail
  refine (rright7_any R A0 A1 n0 c0 n1 c1 l0 l1 _ (h0.ext hW) (h1.ext hW)).mono ?_
  rintro e w3 ⟨rfl, hx3⟩
  replace hW := hW.trans hx3
  replace hda := heap_ext hda hx3
  clear hx3 a0 a1 a2
  cases hr : rightD n0 n1 l0 l1 with
  | false =>
   go_wp2
   go_ret
   exact ⟨rfl, hW⟩
  | true =>
   obtain ⟨g1, g2, rfl, hr0, hr1⟩ := rightD_true2 hr
   by_cases hm : (500 : Int) < (m : Int)
   ·go_wp2
    go_ret
    exact ⟨rfl, hW⟩
   by_cases hnm : (40 : Int) < (nM : Int)
   ·go_wp2
    go_ret
    exact ⟨rfl, hW⟩
   have hn0 : ¬ (n1 : Int) = 0 := by omega
   have hk : iN % n1 < n1 := Nat.mod_lt _ (by omega)
   generalize iN % n1 = k at *
   have hkw : IntKind.i64.wrap (k : Int) = (k : Int) := by rw [IntKind.wrap_i64]; omega
   have hki : (k : Int) < (n1 : Int) := by omega
   have hlen0 := h0.len
   have hlen1 := h1.len
   have hq0 : ∀ s ∈ l0, s.q ≤ 4000 := fun s hs => by have := sumQ_mem hs; omega
   have hq1 : ∀ s ∈ l1, s.q ≤ 4000 := fun s hs => by have := sumQ_mem hs; omega
   have hR0 : ∀ s ∈ l0, rightB s.k s.q = true ∧ s.q ≤ 9223372036854775807 := fun s hs => ⟨hr0 s hs, by have := hq0 s hs; omega⟩
   have hR1 : ∀ s ∈ l1, rightB s.k s.q = true ∧ s.q ≤ 9223372036854775807 := fun s hs => ⟨hr1 s hs, by have := hq1 s hs; omega⟩
   clear hr hf
   rw [hr2] at ht2
   have hsk : l0[k]? = some (l0[k]'(by omega)) := List.getElem?_eq_getElem _
   have hsm : l0[k]'(by omega) ∈ l0 := List.getElem_mem _
   generalize (l0[k]'(by omega)) = s at *
   have hsq := hq0 s hsm
   have a0 : w3.cell? ⟨ga, 0, none⟩ = some (.int .u64 R) := by simp [World.cell?, hda]
   have a1 : w3.cell? ⟨ga, 1, none⟩ = some (.slice A0 n1 c0) := by simp [World.cell?, hda]
   have a2 : w3.cell? ⟨ga, 2, none⟩ = some (.slice A1 n1 c1) := by simp [World.cell?, hda]
   go_wp2_with fail
   refine (dappend_row0 R A0 A1 n1 c0 n1 c1 k _ s B m cb bs _ (h0.ext hW) hsk (by omega) (by omega) (hB.ext hW) (by omega)).mono ?_
   rintro e w4 ⟨X, cx, ⟨D1, q1, e1, k1, b1⟩, rfl, hX0, ⟨f1, f2, f3⟩, hx4⟩
   simp only at f1 f2 f3
   subst f1 f2 f3
   replace hda := heap_ext hda hx4
   replace hW := hW.trans hx4
   clear hx4 a0 a1 a2
   go_upto_region 13 with (fail)
   have hwa : Ext w4 (w4.alloc (.cells #[.int .u64 R, .slice X n1 cx, .slice A1 n1 c1] 69)) := (Below.refl _ w4).alloc (Nat.le_refl _) _
   have hdp : (w4.alloc (.cells #[.int .u64 R, .slice X n1 cx, .slice A1 n1 c1] 69)).heap[w4.heap.size]? = some (.cells #[.int .u64 R, .slice X n1 cx, .slice A1 n1 c1] 69 (0, 0)) := heap_alloc_new w4 _
   replace hda := heap_ext hda hwa
   replace hW := hW.trans hwa
   replace hX0 := hX0.ext hwa
   generalize w4.alloc (.cells #[.int .u64 R, .slice X n1 cx, .slice A1 n1 c1] 69) = W4 at *
   generalize w4.heap.size = gp at *
   clear hwa
   have a0 : W4.cell? ⟨gp, 0, none⟩ = some (.int .u64 R) := by simp [World.cell?, hdp]
   have a1 : W4.cell? ⟨gp, 1, none⟩ = some (.slice X n1 cx) := by simp [World.cell?, hdp]
   have a2 : W4.cell? ⟨gp, 2, none⟩ = some (.slice A1 n1 c1) := by simp [World.cell?, hdp]
   go_wp2_with fail
   refine (dsync_row0 R X A1 n1 cx n1 c1 k _ ⟨D1, s.q + m, e1, s.k, s.d ++ bs⟩ _ hX0 (by rw [List.getElem?_set_self (by omega)]) (by omega) (by omega) (by simp only; omega)).mono ?_
   rintro e w5 ⟨Y, cy, ⟨D2, q2, e2, k2, b2⟩, rfl, hY0, ⟨f1, f2, f3⟩, hx5⟩
   simp only at f1 f2 f3
   subst f1 f2 f3
   rw [List.set_set] at hY0
   replace hda := heap_ext hda hx5
   replace hW := hW.trans hx5
   clear hx5 a0 a1 a2 hdp hX0
   go_upto_region 14 with (fail)
   have hwa : Ext w5 (w5.alloc (.cells #[.int .u64 R, .slice Y n1 cy, .slice A1 n1 c1] 69)) := (Below.refl _ w5).alloc (Nat.le_refl _) _
   have hdq : (w5.alloc (.cells #[.int .u64 R, .slice Y n1 cy, .slice A1 n1 c1] 69)).heap[w5.heap.size]? = some (.cells #[.int .u64 R, .slice Y n1 cy, .slice A1 n1 c1] 69 (0, 0)) := heap_alloc_new w5 _
   replace hda := heap_ext hda hwa
   replace hW := hW.trans hwa
   replace hY0 := hY0.ext hwa
   generalize w5.alloc (.cells #[.int .u64 R, .slice Y n1 cy, .slice A1 n1 c1] 69) = W5 at *
   generalize w5.heap.size = gq at *
   clear hwa
   have hYk : (l0.set k ⟨D2, s.q + m, e2, ((s.q + m : Nat) : Int), s.d ++ bs⟩)[k]? = some ⟨D2, s.q + m, e2, ((s.q + m : Nat) : Int), s.d ++ bs⟩ := by rw [List.getElem?_set_self (by omega)]
   have a0 : W5.cell? ⟨gq, 0, none⟩ = some (.int .u64 R) := by simp [World.cell?, hdq]
   have a1 : W5.cell? ⟨gq, 1, none⟩ = some (.slice Y n1 cy) := by simp [World.cell?, hdq]
   have a2 : W5.cell? ⟨gq, 2, none⟩ = some (.slice A1 n1 c1) := by simp [World.cell?, hdq]
   go_wp2_with fail
   refine (dread_row0 R Y A1 n1 cy n1 c1 k _ ⟨D2, s.q + m, e2, ((s.q + m : Nat) : Int), s.d ++ bs⟩ _ hY0 hYk (by omega) (by omega) (by simp only; omega)).mono ?_
   rintro e w6 ⟨S, cS, rfl, hS, hx6⟩
   simp only at hS
   replace hda := heap_ext hda hx6
   replace hdq := heap_ext hdq hx6
   replace hW := hW.trans hx6
   replace hY0 := hY0.ext hx6
   clear hx6 a0 a1 a2
   go_upto_region 15 with (fail)
   have hcat := str_cat7 s.d bs
   obtain ⟨aA, rfl, aa0, aa1, aok⟩ := h0.at hsk
   have hcl : ¬ (9223372036854775807 < s.d.length + bs.length) := by
    have h1 := BytesV.len aok
    have h2 := hB.len
    omega
   have hXa : ∀ wx, Ext w6 wx → wx.cell? ⟨ga, 0, none⟩ = some (.int .u64 R) ∧ wx.cell? ⟨ga, 1, none⟩ = some (.slice (some aA) n1 c0) ∧ wx.cell? ⟨ga, 2, none⟩ = some (.slice A1 n1 c1) ∧ wx.cell? ⟨gq, 0, none⟩ = some (.int .u64 R) ∧ wx.cell? ⟨gq, 1, none⟩ = some (.slice Y n1 cy) ∧ wx.cell? ⟨gq, 2, none⟩ = some (.slice A1 n1 c1) ∧ wx.cell? (aA.add (k * 2)) = some (.slice s.D s.q s.cd) ∧ Ext w6 wx := fun wx hx =>
    ⟨hx.cell (by simp [World.cell?, hda]), hx.cell (by simp [World.cell?, hda]), hx.cell (by simp [World.cell?, hda]), hx.cell (by simp [World.cell?, hdq]), hx.cell (by simp [World.cell?, hdq]), hx.cell (by simp [World.cell?, hdq]), (hW.trans hx).cell aa0, hx⟩
   refine' wp_region_sure_all ⟨((some 87, [], none) :: (some 88, [0], none) :: (some 89, [1], none) :: (some 90, [2], some (2, false)) :: (some 91, [3, 2], some (2, false)) :: (some 92, [2, 4], none) :: (some 93, [5, 2], none) :: (some 94, [6], some (6, false)) :: (some 95, [7, 6], some (6, false)) :: (some 96, [6, 8], none) :: (some 97, [9, 6], none) :: (some 98, [10], some (10, false)) :: (some 99, [11, 10], some (10, false)) :: (some 100, [10], some (10, false)) :: (some 101, [10], some (10, false)) :: (some 102, [14, 13, 10], some (10, false)) :: (some 103, [15, 10], some (10, false)) :: (some 104, [10], some (10, false)) :: (some 105, [16, 17, 10], some (10, false)) :: (some 106, [18, 10], some (10, false)) :: (some 107, [19, 10], some (10, false)) :: (some 108, [20, 10], some (10, false)) :: (some 109, [10], some (10, false)) :: (some 110, [22, 10], some (10, false)) :: (some 111, [21, 23, 10], some (10, false)) :: (some 112, [12, 24, 10], some (10, false)) :: (some 113, [10, 25], none) :: (some 114, [26, 10], none) :: (some 115, [27], some (27, false)) :: (some 116, [28, 27], some (27, false)) :: (some 117, [29, 27], some (27, false)) :: (some 118, [30, 27], some (27, false)) :: (some 119, [27], some (27, false)) :: (some 120, [32, 27], some (27, false)) :: (some 121, [33, 27], some (27, false)) :: (some 122, [34, 27], some (27, false)) :: (some 123, [31, 35, 27], some (27, false)) :: (some 124, [27, 36], none) :: (some 125, [37, 27], none) :: (some 126, [38], some (38, false)) :: (some 127, [39, 38], some (38, false)) :: (some 128, [40, 38], some (38, false)) :: (some 129, [41, 38], some (38, false)) :: (some 130, [38], some (38, false)) :: (some 131, [43, 38], some (38, false)) :: (some 132, [44, 38], some (38, false)) :: (some 133, [45, 38], some (38, false)) :: (some 134, [42, 46, 38], some (38, false)) :: (some 135, [38, 47], none) :: (some 136, [48, 38], none) :: (some 137, [49], some (49, false)) :: (some 138, [50, 49], some (49, false)) :: (some 139, [49], some (49, false)) :: (some 140, [52, 49], some (49, false)) :: (some 141, [51, 53, 49], some (49, false)) :: (some 142, [49, 54], none) :: []), (0 :: 1 :: 3 :: 7 :: 15 :: 31 :: 63 :: 127 :: 255 :: 511 :: 1023 :: 2047 :: 4095 :: 2047 :: 2047 :: 26623 :: 59391 :: 2047 :: 255999 :: 518143 :: 1042431 :: 2091007 :: 2047 :: 4196351 :: 16771071 :: 33554431 :: 67108863 :: 134217727 :: 268435455 :: 536870911 :: 1073741823 :: 2147483647 :: 268435455 :: 4563402751 :: 13153337343 :: 30333206527 :: 68719476735 :: 137438953471 :: 274877906943 :: 549755813887 :: 1099511627775 :: 2199023255551 :: 4398046511103 :: 549755813887 :: 9345848836095 :: 26938034880511 :: 62122406969343 :: 140737488355327 :: 281474976710655 :: 562949953421311 :: 1125899906842623 :: 2251799813685247 :: 1125899906842623 :: 5629499534213119 :: 18014398509481983 :: 36028797018963967 :: []), (true :: true :: true :: true :: true :: true :: true :: true :: true :: true :: true :: true :: true :: true :: true :: true :: true :: true :: true :: true :: true :: true :: true :: true :: true :: true :: true :: true :: true :: true :: true :: true :: true :: true :: true :: true :: true :: true :: true :: true :: true :: true :: true :: true :: true :: true :: true :: true :: true :: true :: true :: true :: true :: true :: true :: true :: []), [], 0⟩ 56 318 ((0, 87) :: (1, 88) :: (2, 89) :: (3, 90) :: (4, 91) :: (5, 92) :: (6, 93) :: (7, 94) :: (8, 95) :: (9, 96) :: (10, 97) :: (11, 98) :: (12, 99) :: (13, 100) :: (14, 101) :: (15, 102) :: (16, 103) :: (17, 104) :: (18, 105) :: (19, 106) :: (20, 107) :: (21, 108) :: (22, 109) :: (23, 110) :: (24, 111) :: (25, 112) :: (26, 113) :: (27, 114) :: (28, 115) :: (29, 116) :: (30, 117) :: (31, 118) :: (32, 119) :: (33, 120) :: (34, 121) :: (35, 122) :: (36, 123) :: (37, 124) :: (38, 125) :: (39, 126) :: (40, 127) :: (41, 128) :: (42, 129) :: (43, 130) :: (44, 131) :: (45, 132) :: (46, 133) :: (47, 134) :: (48, 135) :: (49, 136) :: (50, 137) :: (51, 138) :: (52, 139) :: (53, 140) :: (54, 141) :: (55, 142) :: []) ((0, 87) :: (1, 88) :: (2, 89) :: (3, 90) :: (4, 91) :: (5, 92) :: (6, 93) :: (7, 94) :: (8, 95) :: (9, 96) :: (10, 97) :: (11, 98) :: (12, 99) :: (13, 100) :: (14, 101) :: (15, 102) :: (16, 103) :: (17, 104) :: (18, 105) :: (19, 106) :: (20, 107) :: (21, 108) :: (22, 109) :: (23, 110) :: (24, 111) :: (25, 112) :: (26, 113) :: (27, 114) :: (28, 115) :: (29, 116) :: (30, 117) :: (31, 118) :: (32, 119) :: (33, 120) :: (34, 121) :: (35, 122) :: (36, 123) :: (37, 124) :: (38, 125) :: (39, 126) :: (40, 127) :: (41, 128) :: (42, 129) :: (43, 130) :: (44, 131) :: (45, 132) :: (46, 133) :: (47, 134) :: (48, 135) :: (49, 136) :: (50, 137) :: (51, 138) :: (52, 139) :: (53, 140) :: (54, 141) :: (55, 142) :: []) (.det _ :: .det _ :: .det _ :: .det _ :: .det _ :: .det _ :: .det _ :: .det _ :: .det _ :: .det _ :: .det _ :: .det _ :: .det _ :: .det _ :: .det _ :: .det _ :: .det _ :: .det _ :: .det _ :: .det _ :: .det _ :: .det _ :: .det _ :: .det _ :: .det _ :: .det _ :: .det _ :: .det _ :: .det _ :: .det _ :: .det _ :: .det _ :: .det _ :: .det _ :: .det _ :: .det _ :: .det _ :: .det _ :: .det _ :: .det _ :: .det _ :: .det _ :: .det _ :: .det _ :: .det _ :: .det _ :: .det _ :: .det _ :: .det _ :: .det _ :: .det _ :: .det _ :: .det _ :: .det _ :: .det _ :: .det _ :: []) (by kernel_rfl) (by kernel_rfl) (by kernel_rfl) rfl (by kernel_rfl) (by kernel_rfl) rfl (by kernel_rfl) ?hone ?hend
   case hone =>
    intro CS frS VS hCS ha hV
    have qs3 := slot_val (t := 3) ha rfl
    simp only [List.getElem_toArray, List.getElem_cons_succ, List.getElem_cons_zero] at qs3
    have qs6 := slot_val (t := 6) ha rfl
    simp only [List.getElem_toArray, List.getElem_cons_succ, List.getElem_cons_zero] at qs6
    have qs10 := slot_val (t := 10) ha rfl
    simp only [List.getElem_toArray, List.getElem_cons_succ, List.getElem_cons_zero] at qs10
    have qs11 := slot_val (t := 11) ha rfl
    simp only [List.getElem_toArray, List.getElem_cons_succ, List.getElem_cons_zero] at qs11
    have qs13 := slot_val (t := 13) ha rfl
    simp only [List.getElem_toArray, List.getElem_cons_succ, List.getElem_cons_zero] at qs13
    have qs14 := slot_val (t := 14) ha rfl
    simp only [List.getElem_toArray, List.getElem_cons_succ, List.getElem_cons_zero] at qs14
    have qs15 := slot_val (t := 15) ha rfl
    simp only [List.getElem_toArray, List.getElem_cons_succ, List.getElem_cons_zero] at qs15
    have qs16 := slot_val (t := 16) ha rfl
    simp only [List.getElem_toArray, List.getElem_cons_succ, List.getElem_cons_zero] at qs16
    have qs17 := slot_val (t := 17) ha rfl
    simp only [List.getElem_toArray, List.getElem_cons_succ, List.getElem_cons_zero] at qs17
    have HCS := Lib.hid hCS
    have HVS := Lib.hid hV
    clear ha hCS hV
    refine sure_det (js := []) (ts := [13]) (gd := none) (place_at HVS.out (k := 0) rfl) (by rw [HCS.out]; kernel_rfl) ?_ ?_
    ·intro wx hx ρ hρ hs hf; have hρc := hρ.const; have hρf := hρ.func
     obtain ⟨fx13, -⟩ := hf; rw [qs13] at fx13
     clear hs
     clear HCS HVS qs3 qs6 qs10 qs11 qs13 qs14 qs15 qs16 qs17
     refine run_plain ?_
     refine op_move rfl fx13 ?_
     exact detK.mk
    refine sure_det (js := [(0, 87)]) (ts := []) (gd := none) (place_at HVS.out (k := 1) rfl) (by rw [HCS.out]; kernel_rfl) ?_ ?_
    ·intro wx hx ρ hρ hs hf; have hρc := hρ.const; have hρf := hρ.func; obtain ⟨sn0, -⟩ := hs; rw [place_at HVS.out (k := 0) rfl] at sn0; replace sn0 : ρ (.tmp 87) = _ := sn0
     clear hf
     clear HCS HVS qs3 qs6 qs10 qs11 qs13 qs14 qs15 qs16 qs17
     refine run_plain ?_
     unfold runs
     go_simp
     exact detK.mk
    refine sure_det (js := [(1, 88)]) (ts := []) (gd := none) (place_at HVS.out (k := 2) rfl) (by rw [HCS.out]; kernel_rfl) ?_ ?_
    ·intro wx hx ρ hρ hs hf; have hρc := hρ.const; have hρf := hρ.func; obtain ⟨sn1, -⟩ := hs; rw [place_at HVS.out (k := 1) rfl] at sn1; replace sn1 : ρ (.tmp 88) = _ := sn1
     clear hf
     clear HCS HVS qs3 qs6 qs10 qs11 qs13 qs14 qs15 qs16 qs17
     refine run_plain ?_
     refine op_move rfl sn1 ?_
     exact detK.mk
    refine sure_det (js := [(2, 89)]) (ts := [15]) (gd := (some (89, false))) (place_at HVS.out (k := 3) rfl) (by rw [HCS.out]; kernel_rfl) ?_ ?_
    ·intro wx hx ρ hρ hs hf; have hρc := hρ.const; have hρf := hρ.func; obtain ⟨sn2, -⟩ := hs
     obtain ⟨fx15, -⟩ := hf; rw [qs15] at fx15; rw [place_at HVS.out (k := 2) rfl] at sn2; replace sn2 : ρ (.tmp 89) = _ := sn2
     clear HCS HVS qs3 qs6 qs10 qs11 qs13 qs14 qs15 qs16 qs17
     first
      | (refine run_passed sn2 ?_; exact detK.mk)
      | (refine run_guarded sn2 ?_; refine op_move rfl fx15 ?_; exact detK.mk)
    refine sure_det (js := [(3, 90), (2, 89)]) (ts := []) (gd := (some (89, false))) (place_at HVS.out (k := 4) rfl) (by rw [HCS.out]; kernel_rfl) ?_ ?_
    ·intro wx hx ρ hρ hs hf; have hρc := hρ.const; have hρf := hρ.func; obtain ⟨sn3, sn2, -⟩ := hs; rw [place_at HVS.out (k := 3) rfl] at sn3; replace sn3 : ρ (.tmp 90) = _ := sn3; rw [place_at HVS.out (k := 2) rfl] at sn2; replace sn2 : ρ (.tmp 89) = _ := sn2
     clear hf
     clear HCS HVS qs3 qs6 qs10 qs11 qs13 qs14 qs15 qs16 qs17
     first
      | (refine run_passed sn2 ?_; exact detK.mk)
      | (refine run_guarded sn2 ?_; unfold runs; go_simp; exact detK.mk)
    refine sure_det (js := [(2, 89), (4, 91)]) (ts := []) (gd := none) (place_at HVS.out (k := 5) rfl) (by rw [HCS.out]; kernel_rfl) ?_ ?_
    ·intro wx hx ρ hρ hs hf; have hρc := hρ.const; have hρf := hρ.func; obtain ⟨sn2, sn4, -⟩ := hs; rw [place_at HVS.out (k := 2) rfl] at sn2; replace sn2 : ρ (.tmp 89) = _ := sn2; rw [place_at HVS.out (k := 4) rfl] at sn4; replace sn4 : ρ (.tmp 91) = _ := sn4
     clear hf
     clear HCS HVS qs3 qs6 qs10 qs11 qs13 qs14 qs15 qs16 qs17
     refine run_plain ?_
     first | refine op_pick_t rfl sn2 (hρ.const _) ?_ | refine op_pick_f rfl sn2 sn4 ?_
     exact detK.mk
    refine sure_det (js := [(5, 92)]) (ts := []) (gd := none) (place_at HVS.out (k := 6) rfl) (by rw [HCS.out]; kernel_rfl) ?_ ?_
    ·intro wx hx ρ hρ hs hf; have hρc := hρ.const; have hρf := hρ.func; obtain ⟨sn5, -⟩ := hs; rw [place_at HVS.out (k := 5) rfl] at sn5; replace sn5 : ρ (.tmp 92) = _ := sn5
     clear hf
     clear HCS HVS qs3 qs6 qs10 qs11 qs13 qs14 qs15 qs16 qs17
     refine run_plain ?_
     refine op_move rfl sn5 ?_
     exact detK.mk
    refine sure_det (js := [(6, 93)]) (ts := [17]) (gd := (some (93, false))) (place_at HVS.out (k := 7) rfl) (by rw [HCS.out]; kernel_rfl) ?_ ?_
    ·intro wx hx ρ hρ hs hf; have hρc := hρ.const; have hρf := hρ.func; obtain ⟨sn6, -⟩ := hs
     obtain ⟨fx17, -⟩ := hf; rw [qs17] at fx17; rw [place_at HVS.out (k := 6) rfl] at sn6; replace sn6 : ρ (.tmp 93) = _ := sn6
     clear HCS HVS qs3 qs6 qs10 qs11 qs13 qs14 qs15 qs16 qs17
     first
      | (refine run_passed sn6 ?_; exact detK.mk)
      | (refine run_guarded sn6 ?_; refine op_move rfl fx17 ?_; exact detK.mk)
    refine sure_det (js := [(7, 94), (6, 93)]) (ts := []) (gd := (some (93, false))) (place_at HVS.out (k := 8) rfl) (by rw [HCS.out]; kernel_rfl) ?_ ?_
    ·intro wx hx ρ hρ hs hf; have hρc := hρ.const; have hρf := hρ.func; obtain ⟨sn7, sn6, -⟩ := hs; rw [place_at HVS.out (k := 7) rfl] at sn7; replace sn7 : ρ (.tmp 94) = _ := sn7; rw [place_at HVS.out (k := 6) rfl] at sn6; replace sn6 : ρ (.tmp 93) = _ := sn6
     clear hf
     clear HCS HVS qs3 qs6 qs10 qs11 qs13 qs14 qs15 qs16 qs17
     first
      | (refine run_passed sn6 ?_; exact detK.mk)
      | (refine run_guarded sn6 ?_; unfold runs; go_simp; exact detK.mk)
    refine sure_det (js := [(6, 93), (8, 95)]) (ts := []) (gd := none) (place_at HVS.out (k := 9) rfl) (by rw [HCS.out]; kernel_rfl) ?_ ?_
    ·intro wx hx ρ hρ hs hf; have hρc := hρ.const; have hρf := hρ.func; obtain ⟨sn6, sn8, -⟩ := hs; rw [place_at HVS.out (k := 6) rfl] at sn6; replace sn6 : ρ (.tmp 93) = _ := sn6; rw [place_at HVS.out (k := 8) rfl] at sn8; replace sn8 : ρ (.tmp 95) = _ := sn8
     clear hf
     clear HCS HVS qs3 qs6 qs10 qs11 qs13 qs14 qs15 qs16 qs17
     refine run_plain ?_
     first | refine op_pick_t rfl sn6 (hρ.const _) ?_ | refine op_pick_f rfl sn6 sn8 ?_
     exact detK.mk
    refine sure_det (js := [(9, 96)]) (ts := []) (gd := none) (place_at HVS.out (k := 10) rfl) (by rw [HCS.out]; kernel_rfl) ?_ ?_
    ·intro wx hx ρ hρ hs hf; have hρc := hρ.const; have hρf := hρ.func; obtain ⟨sn9, -⟩ := hs; rw [place_at HVS.out (k := 9) rfl] at sn9; replace sn9 : ρ (.tmp 96) = _ := sn9
     clear hf
     clear HCS HVS qs3 qs6 qs10 qs11 qs13 qs14 qs15 qs16 qs17
     refine run_plain ?_
     refine op_move rfl sn9 ?_
     exact detK.mk
    refine sure_det (js := [(10, 97)]) (ts := [16]) (gd := (some (97, false))) (place_at HVS.out (k := 11) rfl) (by rw [HCS.out]; kernel_rfl) ?_ ?_
    ·intro wx hx ρ hρ hs hf; have hρc := hρ.const; have hρf := hρ.func; obtain ⟨sn10, -⟩ := hs
     obtain ⟨fx16, -⟩ := hf; rw [qs16] at fx16; rw [place_at HVS.out (k := 10) rfl] at sn10; replace sn10 : ρ (.tmp 97) = _ := sn10
     clear HCS HVS qs3 qs6 qs10 qs11 qs13 qs14 qs15 qs16 qs17
     first
      | (refine run_passed sn10 ?_; exact detK.mk)
      | (refine run_guarded sn10 ?_; refine op_move rfl fx16 ?_; exact detK.mk)
    refine sure_det (js := [(11, 98), (10, 97)]) (ts := []) (gd := (some (97, false))) (place_at HVS.out (k := 12) rfl) (by rw [HCS.out]; kernel_rfl) ?_ ?_
    ·intro wx hx ρ hρ hs hf; have hρc := hρ.const; have hρf := hρ.func; obtain ⟨sn11, sn10, -⟩ := hs; rw [place_at HVS.out (k := 11) rfl] at sn11; replace sn11 : ρ (.tmp 98) = _ := sn11; rw [place_at HVS.out (k := 10) rfl] at sn10; replace sn10 : ρ (.tmp 97) = _ := sn10
     clear hf
     clear HCS HVS qs3 qs6 qs10 qs11 qs13 qs14 qs15 qs16 qs17
     first
      | (refine run_passed sn10 ?_; exact detK.mk)
      | (refine run_guarded sn10 ?_; have q1 := run_convert_bytesV (P := Try.prog) (hS.ext hx.drawn) Try.underlying27 Try.underlying5 Try.underlying9; unfold runs; go_simp; exact detK.mk)
    refine sure_det (js := [(10, 97)]) (ts := [10]) (gd := (some (97, false))) (place_at HVS.out (k := 13) rfl) (by rw [HCS.out]; kernel_rfl) ?_ ?_
    ·intro wx hx ρ hρ hs hf; have hρc := hρ.const; have hρf := hρ.func; obtain ⟨sn10, -⟩ := hs
     obtain ⟨fx10, -⟩ := hf; rw [qs10] at fx10; rw [place_at HVS.out (k := 10) rfl] at sn10; replace sn10 : ρ (.tmp 97) = _ := sn10
     clear HCS HVS qs3 qs6 qs10 qs11 qs13 qs14 qs15 qs16 qs17
     first
      | (refine run_passed sn10 ?_; exact detK.mk)
      | (refine run_guarded sn10 ?_; refine op_move rfl fx10 ?_; exact detK.mk)
    refine sure_det (js := [(10, 97)]) (ts := [3]) (gd := (some (97, false))) (place_at HVS.out (k := 14) rfl) (by rw [HCS.out]; kernel_rfl) ?_ ?_
    ·intro wx hx ρ hρ hs hf; have hρc := hρ.const; have hρf := hρ.func; obtain ⟨sn10, -⟩ := hs
     obtain ⟨fx3, -⟩ := hf; rw [qs3] at fx3; rw [place_at HVS.out (k := 10) rfl] at sn10; replace sn10 : ρ (.tmp 97) = _ := sn10
     clear HCS HVS qs3 qs6 qs10 qs11 qs13 qs14 qs15 qs16 qs17
     first
      | (refine run_passed sn10 ?_; exact detK.mk)
      | (refine run_guarded sn10 ?_; unfold runs; go_simp; exact detK.mk)
    refine sure_det (js := [(14, 101), (13, 100), (10, 97)]) (ts := []) (gd := (some (97, false))) (place_at HVS.out (k := 15) rfl) (by rw [HCS.out]; kernel_rfl) ?_ ?_
    ·intro wx hx ρ hρ hs hf; have hρc := hρ.const; have hρf := hρ.func; obtain ⟨sn14, sn13, sn10, -⟩ := hs; rw [place_at HVS.out (k := 14) rfl] at sn14; replace sn14 : ρ (.tmp 101) = _ := sn14; rw [place_at HVS.out (k := 13) rfl] at sn13; replace sn13 : ρ (.tmp 100) = _ := sn13; rw [place_at HVS.out (k := 10) rfl] at sn10; replace sn10 : ρ (.tmp 97) = _ := sn10
     clear hf
     clear HCS HVS qs3 qs6 qs10 qs11 qs13 qs14 qs15 qs16 qs17
     first
      | (refine run_passed sn10 ?_; exact detK.mk)
      | (refine run_guarded sn10 ?_; unfold runs; go_simp; exact detK.mk)
    refine sure_det (js := [(15, 102), (10, 97)]) (ts := []) (gd := (some (97, false))) (place_at HVS.out (k := 16) rfl) (by rw [HCS.out]; kernel_rfl) ?_ ?_
    ·intro wx hx ρ hρ hs hf; have hρc := hρ.const; have hρf := hρ.func; obtain ⟨sn15, sn10, -⟩ := hs; rw [place_at HVS.out (k := 15) rfl] at sn15; replace sn15 : ρ (.tmp 102) = _ := sn15; rw [place_at HVS.out (k := 10) rfl] at sn10; replace sn10 : ρ (.tmp 97) = _ := sn10
     clear hf
     clear HCS HVS qs3 qs6 qs10 qs11 qs13 qs14 qs15 qs16 qs17
     first
      | (refine run_passed sn10 ?_; exact detK.mk)
      | (refine run_guarded sn10 ?_; obtain ⟨p0, p1, p2, p3, p4, p5, p6, -⟩ := hXa wx hx.drawn; unfold runs; go_simp; exact detK.mk)
    refine sure_det (js := [(10, 97)]) (ts := [11]) (gd := (some (97, false))) (place_at HVS.out (k := 17) rfl) (by rw [HCS.out]; kernel_rfl) ?_ ?_
    ·intro wx hx ρ hρ hs hf; have hρc := hρ.const; have hρf := hρ.func; obtain ⟨sn10, -⟩ := hs
     obtain ⟨fx11, -⟩ := hf; rw [qs11] at fx11; rw [place_at HVS.out (k := 10) rfl] at sn10; replace sn10 : ρ (.tmp 97) = _ := sn10
     clear HCS HVS qs3 qs6 qs10 qs11 qs13 qs14 qs15 qs16 qs17
     first
      | (refine run_passed sn10 ?_; exact detK.mk)
      | (refine run_guarded sn10 ?_; refine op_move rfl fx11 ?_; exact detK.mk)
    refine sure_det (js := [(16, 103), (17, 104), (10, 97)]) (ts := []) (gd := (some (97, false))) (place_at HVS.out (k := 18) rfl) (by rw [HCS.out]; kernel_rfl) ?_ ?_
    ·intro wx hx ρ hρ hs hf; have hρc := hρ.const; have hρf := hρ.func; obtain ⟨sn16, sn17, sn10, -⟩ := hs; rw [place_at HVS.out (k := 16) rfl] at sn16; replace sn16 : ρ (.tmp 103) = _ := sn16; rw [place_at HVS.out (k := 17) rfl] at sn17; replace sn17 : ρ (.tmp 104) = _ := sn17; rw [place_at HVS.out (k := 10) rfl] at sn10; replace sn10 : ρ (.tmp 97) = _ := sn10
     clear hf
     clear HCS HVS qs3 qs6 qs10 qs11 qs13 qs14 qs15 qs16 qs17
     first
      | (refine run_passed sn10 ?_; exact detK.mk)
      | (refine run_guarded sn10 ?_; unfold runs; go_simp; exact detK.mk)
    refine sure_det (js := [(18, 105), (10, 97)]) (ts := []) (gd := (some (97, false))) (place_at HVS.out (k := 19) rfl) (by rw [HCS.out]; kernel_rfl) ?_ ?_
    ·intro wx hx ρ hρ hs hf; have hρc := hρ.const; have hρf := hρ.func; obtain ⟨sn18, sn10, -⟩ := hs; rw [place_at HVS.out (k := 18) rfl] at sn18; replace sn18 : ρ (.tmp 105) = _ := sn18; rw [place_at HVS.out (k := 10) rfl] at sn10; replace sn10 : ρ (.tmp 97) = _ := sn10
     clear hf
     clear HCS HVS qs3 qs6 qs10 qs11 qs13 qs14 qs15 qs16 qs17
     first
      | (refine run_passed sn10 ?_; exact detK.mk)
      | (refine run_guarded sn10 ?_; unfold runs; go_simp; exact detK.mk)
    refine sure_det (js := [(19, 106), (10, 97)]) (ts := []) (gd := (some (97, false))) (place_at HVS.out (k := 20) rfl) (by rw [HCS.out]; kernel_rfl) ?_ ?_
    ·intro wx hx ρ hρ hs hf; have hρc := hρ.const; have hρf := hρ.func; obtain ⟨sn19, sn10, -⟩ := hs; rw [place_at HVS.out (k := 19) rfl] at sn19; replace sn19 : ρ (.tmp 106) = _ := sn19; rw [place_at HVS.out (k := 10) rfl] at sn10; replace sn10 : ρ (.tmp 97) = _ := sn10
     clear hf
     clear HCS HVS qs3 qs6 qs10 qs11 qs13 qs14 qs15 qs16 qs17
     first
      | (refine run_passed sn10 ?_; exact detK.mk)
      | (refine run_guarded sn10 ?_; obtain ⟨p0, p1, p2, p3, p4, p5, p6, -⟩ := hXa wx hx.drawn; unfold runs; go_simp; exact detK.mk)
    refine sure_det (js := [(20, 107), (10, 97)]) (ts := []) (gd := (some (97, false))) (place_at HVS.out (k := 21) rfl) (by rw [HCS.out]; kernel_rfl) ?_ ?_
    ·intro wx hx ρ hρ hs hf; have hρc := hρ.const; have hρf := hρ.func; obtain ⟨sn20, sn10, -⟩ := hs; rw [place_at HVS.out (k := 20) rfl] at sn20; replace sn20 : ρ (.tmp 107) = _ := sn20; rw [place_at HVS.out (k := 10) rfl] at sn10; replace sn10 : ρ (.tmp 97) = _ := sn10
     clear hf
     clear HCS HVS qs3 qs6 qs10 qs11 qs13 qs14 qs15 qs16 qs17
     first
      | (refine run_passed sn10 ?_; exact detK.mk)
      | (refine run_guarded sn10 ?_; have q1 := run_convert_bytesV (P := Try.prog) (aok.ext (hW.trans hx.drawn)) Try.underlying27 Try.underlying5 Try.underlying9; unfold runs; go_simp; exact detK.mk)
    refine sure_det (js := [(10, 97)]) (ts := [6]) (gd := (some (97, false))) (place_at HVS.out (k := 22) rfl) (by rw [HCS.out]; kernel_rfl) ?_ ?_
    ·intro wx hx ρ hρ hs hf; have hρc := hρ.const; have hρf := hρ.func; obtain ⟨sn10, -⟩ := hs
     obtain ⟨fx6, -⟩ := hf; rw [qs6] at fx6; rw [place_at HVS.out (k := 10) rfl] at sn10; replace sn10 : ρ (.tmp 97) = _ := sn10
     clear HCS HVS qs3 qs6 qs10 qs11 qs13 qs14 qs15 qs16 qs17
     first
      | (refine run_passed sn10 ?_; exact detK.mk)
      | (refine run_guarded sn10 ?_; refine op_move rfl fx6 ?_; exact detK.mk)
    refine sure_det (js := [(22, 109), (10, 97)]) (ts := []) (gd := (some (97, false))) (place_at HVS.out (k := 23) rfl) (by rw [HCS.out]; kernel_rfl) ?_ ?_
    ·intro wx hx ρ hρ hs hf; have hρc := hρ.const; have hρf := hρ.func; obtain ⟨sn22, sn10, -⟩ := hs; rw [place_at HVS.out (k := 22) rfl] at sn22; replace sn22 : ρ (.tmp 109) = _ := sn22; rw [place_at HVS.out (k := 10) rfl] at sn10; replace sn10 : ρ (.tmp 97) = _ := sn10
     clear hf
     clear HCS HVS qs3 qs6 qs10 qs11 qs13 qs14 qs15 qs16 qs17
     first
      | (refine run_passed sn10 ?_; exact detK.mk)
      | (refine run_guarded sn10 ?_; have q1 := run_convert_bytesV (P := Try.prog) (hB.ext (hW.trans hx.drawn)) Try.underlying27 Try.underlying5 Try.underlying9; unfold runs; go_simp; exact detK.mk)
    refine sure_det (js := [(21, 108), (23, 110), (10, 97)]) (ts := []) (gd := (some (97, false))) (place_at HVS.out (k := 24) rfl) (by rw [HCS.out]; kernel_rfl) ?_ ?_
    ·intro wx hx ρ hρ hs hf; have hρc := hρ.const; have hρf := hρ.func; obtain ⟨sn21, sn23, sn10, -⟩ := hs; rw [place_at HVS.out (k := 21) rfl] at sn21; replace sn21 : ρ (.tmp 108) = _ := sn21; rw [place_at HVS.out (k := 23) rfl] at sn23; replace sn23 : ρ (.tmp 110) = _ := sn23; rw [place_at HVS.out (k := 10) rfl] at sn10; replace sn10 : ρ (.tmp 97) = _ := sn10
     clear hf
     clear HCS HVS qs3 qs6 qs10 qs11 qs13 qs14 qs15 qs16 qs17
     first
      | (refine run_passed sn10 ?_; exact detK.mk)
      | (refine run_guarded sn10 ?_; unfold runs; go_simp; exact detK.mk)
    refine sure_det (js := [(12, 99), (24, 111), (10, 97)]) (ts := []) (gd := (some (97, false))) (place_at HVS.out (k := 25) rfl) (by rw [HCS.out]; kernel_rfl) ?_ ?_
    ·intro wx hx ρ hρ hs hf; have hρc := hρ.const; have hρf := hρ.func; obtain ⟨sn12, sn24, sn10, -⟩ := hs; rw [place_at HVS.out (k := 12) rfl] at sn12; replace sn12 : ρ (.tmp 99) = _ := sn12; rw [place_at HVS.out (k := 24) rfl] at sn24; replace sn24 : ρ (.tmp 111) = _ := sn24; rw [place_at HVS.out (k := 10) rfl] at sn10; replace sn10 : ρ (.tmp 97) = _ := sn10
     clear hf
     clear HCS HVS qs3 qs6 qs10 qs11 qs13 qs14 qs15 qs16 qs17
     first
      | (refine run_passed sn10 ?_; exact detK.mk)
      | (refine run_guarded sn10 ?_; unfold runs; go_simp; exact detK.mk)
    refine sure_det (js := [(10, 97), (25, 112)]) (ts := []) (gd := none) (place_at HVS.out (k := 26) rfl) (by rw [HCS.out]; kernel_rfl) ?_ ?_
    ·intro wx hx ρ hρ hs hf; have hρc := hρ.const; have hρf := hρ.func; obtain ⟨sn10, sn25, -⟩ := hs; rw [place_at HVS.out (k := 10) rfl] at sn10; replace sn10 : ρ (.tmp 97) = _ := sn10; rw [place_at HVS.out (k := 25) rfl] at sn25; replace sn25 : ρ (.tmp 112) = _ := sn25
     clear hf
     clear HCS HVS qs3 qs6 qs10 qs11 qs13 qs14 qs15 qs16 qs17
     refine run_plain ?_
     first | refine op_pick_t rfl sn10 (hρ.const _) ?_ | refine op_pick_f rfl sn10 sn25 ?_
     exact detK.mk
    refine sure_det (js := [(26, 113)]) (ts := []) (gd := none) (place_at HVS.out (k := 27) rfl) (by rw [HCS.out]; kernel_rfl) ?_ ?_
    ·intro wx hx ρ hρ hs hf; have hρc := hρ.const; have hρf := hρ.func; obtain ⟨sn26, -⟩ := hs; rw [place_at HVS.out (k := 26) rfl] at sn26; replace sn26 : ρ (.tmp 113) = _ := sn26
     clear hf
     clear HCS HVS qs3 qs6 qs10 qs11 qs13 qs14 qs15 qs16 qs17
     refine run_plain ?_
     refine op_move rfl sn26 ?_
     exact detK.mk
    refine sure_det (js := [(27, 114)]) (ts := [14]) (gd := (some (114, false))) (place_at HVS.out (k := 28) rfl) (by rw [HCS.out]; kernel_rfl) ?_ ?_
    ·intro wx hx ρ hρ hs hf; have hρc := hρ.const; have hρf := hρ.func; obtain ⟨sn27, -⟩ := hs
     obtain ⟨fx14, -⟩ := hf; rw [qs14] at fx14; rw [place_at HVS.out (k := 27) rfl] at sn27; replace sn27 : ρ (.tmp 114) = _ := sn27
     clear HCS HVS qs3 qs6 qs10 qs11 qs13 qs14 qs15 qs16 qs17
     first
      | (refine run_passed sn27 ?_; exact detK.mk)
      | (refine run_guarded sn27 ?_; unfold runs; go_simp; exact detK.mk)
    refine sure_det (js := [(28, 115), (27, 114)]) (ts := []) (gd := (some (114, false))) (place_at HVS.out (k := 29) rfl) (by rw [HCS.out]; kernel_rfl) ?_ ?_
    ·intro wx hx ρ hρ hs hf; have hρc := hρ.const; have hρf := hρ.func; obtain ⟨sn28, sn27, -⟩ := hs; rw [place_at HVS.out (k := 28) rfl] at sn28; replace sn28 : ρ (.tmp 115) = _ := sn28; rw [place_at HVS.out (k := 27) rfl] at sn27; replace sn27 : ρ (.tmp 114) = _ := sn27
     clear hf
     clear HCS HVS qs3 qs6 qs10 qs11 qs13 qs14 qs15 qs16 qs17
     first
      | (refine run_passed sn27 ?_; exact detK.mk)
      | (refine run_guarded sn27 ?_; unfold runs; go_simp; exact detK.mk)
    refine sure_det (js := [(29, 116), (27, 114)]) (ts := []) (gd := (some (114, false))) (place_at HVS.out (k := 30) rfl) (by rw [HCS.out]; kernel_rfl) ?_ ?_
    ·intro wx hx ρ hρ hs hf; have hρc := hρ.const; have hρf := hρ.func; obtain ⟨sn29, sn27, -⟩ := hs; rw [place_at HVS.out (k := 29) rfl] at sn29; replace sn29 : ρ (.tmp 116) = _ := sn29; rw [place_at HVS.out (k := 27) rfl] at sn27; replace sn27 : ρ (.tmp 114) = _ := sn27
     clear hf
     clear HCS HVS qs3 qs6 qs10 qs11 qs13 qs14 qs15 qs16 qs17
     first
      | (refine run_passed sn27 ?_; exact detK.mk)
      | (refine run_guarded sn27 ?_; obtain ⟨p0, p1, p2, p3, p4, p5, p6, -⟩ := hXa wx hx.drawn; unfold runs; go_simp; exact detK.mk)
    refine sure_det (js := [(30, 117), (27, 114)]) (ts := []) (gd := (some (114, false))) (place_at HVS.out (k := 31) rfl) (by rw [HCS.out]; kernel_rfl) ?_ ?_
    ·intro wx hx ρ hρ hs hf; have hρc := hρ.const; have hρf := hρ.func; obtain ⟨sn30, sn27, -⟩ := hs; rw [place_at HVS.out (k := 30) rfl] at sn30; replace sn30 : ρ (.tmp 117) = _ := sn30; rw [place_at HVS.out (k := 27) rfl] at sn27; replace sn27 : ρ (.tmp 114) = _ := sn27
     clear hf
     clear HCS HVS qs3 qs6 qs10 qs11 qs13 qs14 qs15 qs16 qs17
     first
      | (refine run_passed sn27 ?_; exact detK.mk)
      | (refine run_guarded sn27 ?_; unfold runs; go_simp; exact detK.mk)
    refine sure_det (js := [(27, 114)]) (ts := [3]) (gd := (some (114, false))) (place_at HVS.out (k := 32) rfl) (by rw [HCS.out]; kernel_rfl) ?_ ?_
    ·intro wx hx ρ hρ hs hf; have hρc := hρ.const; have hρf := hρ.func; obtain ⟨sn27, -⟩ := hs
     obtain ⟨fx3, -⟩ := hf; rw [qs3] at fx3; rw [place_at HVS.out (k := 27) rfl] at sn27; replace sn27 : ρ (.tmp 114) = _ := sn27
     clear HCS HVS qs3 qs6 qs10 qs11 qs13 qs14 qs15 qs16 qs17
     first
      | (refine run_passed sn27 ?_; exact detK.mk)
      | (refine run_guarded sn27 ?_; unfold runs; go_simp; exact detK.mk)
    refine sure_det (js := [(32, 119), (27, 114)]) (ts := []) (gd := (some (114, false))) (place_at HVS.out (k := 33) rfl) (by rw [HCS.out]; kernel_rfl) ?_ ?_
    ·intro wx hx ρ hρ hs hf; have hρc := hρ.const; have hρf := hρ.func; obtain ⟨sn32, sn27, -⟩ := hs; rw [place_at HVS.out (k := 32) rfl] at sn32; replace sn32 : ρ (.tmp 119) = _ := sn32; rw [place_at HVS.out (k := 27) rfl] at sn27; replace sn27 : ρ (.tmp 114) = _ := sn27
     clear hf
     clear HCS HVS qs3 qs6 qs10 qs11 qs13 qs14 qs15 qs16 qs17
     first
      | (refine run_passed sn27 ?_; exact detK.mk)
      | (refine run_guarded sn27 ?_; unfold runs; go_simp; exact detK.mk)
    refine sure_det (js := [(33, 120), (27, 114)]) (ts := []) (gd := (some (114, false))) (place_at HVS.out (k := 34) rfl) (by rw [HCS.out]; kernel_rfl) ?_ ?_
    ·intro wx hx ρ hρ hs hf; have hρc := hρ.const; have hρf := hρ.func; obtain ⟨sn33, sn27, -⟩ := hs; rw [place_at HVS.out (k := 33) rfl] at sn33; replace sn33 : ρ (.tmp 120) = _ := sn33; rw [place_at HVS.out (k := 27) rfl] at sn27; replace sn27 : ρ (.tmp 114) = _ := sn27
     clear hf
     clear HCS HVS qs3 qs6 qs10 qs11 qs13 qs14 qs15 qs16 qs17
     first
      | (refine run_passed sn27 ?_; exact detK.mk)
      | (refine run_guarded sn27 ?_; obtain ⟨p0, p1, p2, p3, p4, p5, p6, -⟩ := hXa wx hx.drawn; unfold runs; go_simp; exact detK.mk)
    refine sure_det (js := [(34, 121), (27, 114)]) (ts := []) (gd := (some (114, false))) (place_at HVS.out (k := 35) rfl) (by rw [HCS.out]; kernel_rfl) ?_ ?_
    ·intro wx hx ρ hρ hs hf; have hρc := hρ.const; have hρf := hρ.func; obtain ⟨sn34, sn27, -⟩ := hs; rw [place_at HVS.out (k := 34) rfl] at sn34; replace sn34 : ρ (.tmp 121) = _ := sn34; rw [place_at HVS.out (k := 27) rfl] at sn27; replace sn27 : ρ (.tmp 114) = _ := sn27
     clear hf
     clear HCS HVS qs3 qs6 qs10 qs11 qs13 qs14 qs15 qs16 qs17
     first
      | (refine run_passed sn27 ?_; exact detK.mk)
      | (refine run_guarded sn27 ?_; unfold runs; go_simp; exact detK.mk)
    refine sure_det (js := [(31, 118), (35, 122), (27, 114)]) (ts := []) (gd := (some (114, false))) (place_at HVS.out (k := 36) rfl) (by rw [HCS.out]; kernel_rfl) ?_ ?_
    ·intro wx hx ρ hρ hs hf; have hρc := hρ.const; have hρf := hρ.func; obtain ⟨sn31, sn35, sn27, -⟩ := hs; rw [place_at HVS.out (k := 31) rfl] at sn31; replace sn31 : ρ (.tmp 118) = _ := sn31; rw [place_at HVS.out (k := 35) rfl] at sn35; replace sn35 : ρ (.tmp 122) = _ := sn35; rw [place_at HVS.out (k := 27) rfl] at sn27; replace sn27 : ρ (.tmp 114) = _ := sn27
     clear hf
     clear HCS HVS qs3 qs6 qs10 qs11 qs13 qs14 qs15 qs16 qs17
     first
      | (refine run_passed sn27 ?_; exact detK.mk)
      | (refine run_guarded sn27 ?_; unfold runs; go_simp; exact detK.mk)
    refine sure_det (js := [(27, 114), (36, 123)]) (ts := []) (gd := none) (place_at HVS.out (k := 37) rfl) (by rw [HCS.out]; kernel_rfl) ?_ ?_
    ·intro wx hx ρ hρ hs hf; have hρc := hρ.const; have hρf := hρ.func; obtain ⟨sn27, sn36, -⟩ := hs; rw [place_at HVS.out (k := 27) rfl] at sn27; replace sn27 : ρ (.tmp 114) = _ := sn27; rw [place_at HVS.out (k := 36) rfl] at sn36; replace sn36 : ρ (.tmp 123) = _ := sn36
     clear hf
     clear HCS HVS qs3 qs6 qs10 qs11 qs13 qs14 qs15 qs16 qs17
     refine run_plain ?_
     first | refine op_pick_t rfl sn27 (hρ.const _) ?_ | refine op_pick_f rfl sn27 sn36 ?_
     exact detK.mk
    refine sure_det (js := [(37, 124)]) (ts := []) (gd := none) (place_at HVS.out (k := 38) rfl) (by rw [HCS.out]; kernel_rfl) ?_ ?_
    ·intro wx hx ρ hρ hs hf; have hρc := hρ.const; have hρf := hρ.func; obtain ⟨sn37, -⟩ := hs; rw [place_at HVS.out (k := 37) rfl] at sn37; replace sn37 : ρ (.tmp 124) = _ := sn37
     clear hf
     clear HCS HVS qs3 qs6 qs10 qs11 qs13 qs14 qs15 qs16 qs17
     refine run_plain ?_
     refine op_move rfl sn37 ?_
     exact detK.mk
    refine sure_det (js := [(38, 125)]) (ts := [14]) (gd := (some (125, false))) (place_at HVS.out (k := 39) rfl) (by rw [HCS.out]; kernel_rfl) ?_ ?_
    ·intro wx hx ρ hρ hs hf; have hρc := hρ.const; have hρf := hρ.func; obtain ⟨sn38, -⟩ := hs
     obtain ⟨fx14, -⟩ := hf; rw [qs14] at fx14; rw [place_at HVS.out (k := 38) rfl] at sn38; replace sn38 : ρ (.tmp 125) = _ := sn38
     clear HCS HVS qs3 qs6 qs10 qs11 qs13 qs14 qs15 qs16 qs17
     first
      | (refine run_passed sn38 ?_; exact detK.mk)
      | (refine run_guarded sn38 ?_; unfold runs; go_simp; exact detK.mk)
    refine sure_det (js := [(39, 126), (38, 125)]) (ts := []) (gd := (some (125, false))) (place_at HVS.out (k := 40) rfl) (by rw [HCS.out]; kernel_rfl) ?_ ?_
    ·intro wx hx ρ hρ hs hf; have hρc := hρ.const; have hρf := hρ.func; obtain ⟨sn39, sn38, -⟩ := hs; rw [place_at HVS.out (k := 39) rfl] at sn39; replace sn39 : ρ (.tmp 126) = _ := sn39; rw [place_at HVS.out (k := 38) rfl] at sn38; replace sn38 : ρ (.tmp 125) = _ := sn38
     clear hf
     clear HCS HVS qs3 qs6 qs10 qs11 qs13 qs14 qs15 qs16 qs17
     first
      | (refine run_passed sn38 ?_; exact detK.mk)
      | (refine run_guarded sn38 ?_; unfold runs; go_simp; exact detK.mk)
    refine sure_det (js := [(40, 127), (38, 125)]) (ts := []) (gd := (some (125, false))) (place_at HVS.out (k := 41) rfl) (by rw [HCS.out]; kernel_rfl) ?_ ?_
    ·intro wx hx ρ hρ hs hf; have hρc := hρ.const; have hρf := hρ.func; obtain ⟨sn40, sn38, -⟩ := hs; rw [place_at HVS.out (k := 40) rfl] at sn40; replace sn40 : ρ (.tmp 127) = _ := sn40; rw [place_at HVS.out (k := 38) rfl] at sn38; replace sn38 : ρ (.tmp 125) = _ := sn38
     clear hf
     clear HCS HVS qs3 qs6 qs10 qs11 qs13 qs14 qs15 qs16 qs17
     first
      | (refine run_passed sn38 ?_; exact detK.mk)
      | (refine run_guarded sn38 ?_; obtain ⟨p0, p1, p2, p3, p4, p5, p6, -⟩ := hXa wx hx.drawn; unfold runs; go_simp; exact detK.mk)
    refine sure_det (js := [(41, 128), (38, 125)]) (ts := []) (gd := (some (125, false))) (place_at HVS.out (k := 42) rfl) (by rw [HCS.out]; kernel_rfl) ?_ ?_
    ·intro wx hx ρ hρ hs hf; have hρc := hρ.const; have hρf := hρ.func; obtain ⟨sn41, sn38, -⟩ := hs; rw [place_at HVS.out (k := 41) rfl] at sn41; replace sn41 : ρ (.tmp 128) = _ := sn41; rw [place_at HVS.out (k := 38) rfl] at sn38; replace sn38 : ρ (.tmp 125) = _ := sn38
     clear hf
     clear HCS HVS qs3 qs6 qs10 qs11 qs13 qs14 qs15 qs16 qs17
     first
      | (refine run_passed sn38 ?_; exact detK.mk)
      | (refine run_guarded sn38 ?_; unfold runs; go_simp; exact detK.mk)
    refine sure_det (js := [(38, 125)]) (ts := [3]) (gd := (some (125, false))) (place_at HVS.out (k := 43) rfl) (by rw [HCS.out]; kernel_rfl) ?_ ?_
    ·intro wx hx ρ hρ hs hf; have hρc := hρ.const; have hρf := hρ.func; obtain ⟨sn38, -⟩ := hs
     obtain ⟨fx3, -⟩ := hf; rw [qs3] at fx3; rw [place_at HVS.out (k := 38) rfl] at sn38; replace sn38 : ρ (.tmp 125) = _ := sn38
     clear HCS HVS qs3 qs6 qs10 qs11 qs13 qs14 qs15 qs16 qs17
     first
      | (refine run_passed sn38 ?_; exact detK.mk)
      | (refine run_guarded sn38 ?_; unfold runs; go_simp; exact detK.mk)
    refine sure_det (js := [(43, 130), (38, 125)]) (ts := []) (gd := (some (125, false))) (place_at HVS.out (k := 44) rfl) (by rw [HCS.out]; kernel_rfl) ?_ ?_
    ·intro wx hx ρ hρ hs hf; have hρc := hρ.const; have hρf := hρ.func; obtain ⟨sn43, sn38, -⟩ := hs; rw [place_at HVS.out (k := 43) rfl] at sn43; replace sn43 : ρ (.tmp 130) = _ := sn43; rw [place_at HVS.out (k := 38) rfl] at sn38; replace sn38 : ρ (.tmp 125) = _ := sn38
     clear hf
     clear HCS HVS qs3 qs6 qs10 qs11 qs13 qs14 qs15 qs16 qs17
     first
      | (refine run_passed sn38 ?_; exact detK.mk)
      | (refine run_guarded sn38 ?_; unfold runs; go_simp; exact detK.mk)
    refine sure_det (js := [(44, 131), (38, 125)]) (ts := []) (gd := (some (125, false))) (place_at HVS.out (k := 45) rfl) (by rw [HCS.out]; kernel_rfl) ?_ ?_
    ·intro wx hx ρ hρ hs hf; have hρc := hρ.const; have hρf := hρ.func; obtain ⟨sn44, sn38, -⟩ := hs; rw [place_at HVS.out (k := 44) rfl] at sn44; replace sn44 : ρ (.tmp 131) = _ := sn44; rw [place_at HVS.out (k := 38) rfl] at sn38; replace sn38 : ρ (.tmp 125) = _ := sn38
     clear hf
     clear HCS HVS qs3 qs6 qs10 qs11 qs13 qs14 qs15 qs16 qs17
     first
      | (refine run_passed sn38 ?_; exact detK.mk)
      | (refine run_guarded sn38 ?_; obtain ⟨p0, p1, p2, p3, p4, p5, p6, -⟩ := hXa wx hx.drawn; unfold runs; go_simp; exact detK.mk)
    refine sure_det (js := [(45, 132), (38, 125)]) (ts := []) (gd := (some (125, false))) (place_at HVS.out (k := 46) rfl) (by rw [HCS.out]; kernel_rfl) ?_ ?_
    ·intro wx hx ρ hρ hs hf; have hρc := hρ.const; have hρf := hρ.func; obtain ⟨sn45, sn38, -⟩ := hs; rw [place_at HVS.out (k := 45) rfl] at sn45; replace sn45 : ρ (.tmp 132) = _ := sn45; rw [place_at HVS.out (k := 38) rfl] at sn38; replace sn38 : ρ (.tmp 125) = _ := sn38
     clear hf
     clear HCS HVS qs3 qs6 qs10 qs11 qs13 qs14 qs15 qs16 qs17
     first
      | (refine run_passed sn38 ?_; exact detK.mk)
      | (refine run_guarded sn38 ?_; unfold runs; go_simp; exact detK.mk)
    refine sure_det (js := [(42, 129), (46, 133), (38, 125)]) (ts := []) (gd := (some (125, false))) (place_at HVS.out (k := 47) rfl) (by rw [HCS.out]; kernel_rfl) ?_ ?_
    ·intro wx hx ρ hρ hs hf; have hρc := hρ.const; have hρf := hρ.func; obtain ⟨sn42, sn46, sn38, -⟩ := hs; rw [place_at HVS.out (k := 42) rfl] at sn42; replace sn42 : ρ (.tmp 129) = _ := sn42; rw [place_at HVS.out (k := 46) rfl] at sn46; replace sn46 : ρ (.tmp 133) = _ := sn46; rw [place_at HVS.out (k := 38) rfl] at sn38; replace sn38 : ρ (.tmp 125) = _ := sn38
     clear hf
     clear HCS HVS qs3 qs6 qs10 qs11 qs13 qs14 qs15 qs16 qs17
     first
      | (refine run_passed sn38 ?_; exact detK.mk)
      | (refine run_guarded sn38 ?_; unfold runs; go_simp; exact detK.mk)
    refine sure_det (js := [(38, 125), (47, 134)]) (ts := []) (gd := none) (place_at HVS.out (k := 48) rfl) (by rw [HCS.out]; kernel_rfl) ?_ ?_
    ·intro wx hx ρ hρ hs hf; have hρc := hρ.const; have hρf := hρ.func; obtain ⟨sn38, sn47, -⟩ := hs; rw [place_at HVS.out (k := 38) rfl] at sn38; replace sn38 : ρ (.tmp 125) = _ := sn38; rw [place_at HVS.out (k := 47) rfl] at sn47; replace sn47 : ρ (.tmp 134) = _ := sn47
     clear hf
     clear HCS HVS qs3 qs6 qs10 qs11 qs13 qs14 qs15 qs16 qs17
     refine run_plain ?_
     first | refine op_pick_t rfl sn38 (hρ.const _) ?_ | refine op_pick_f rfl sn38 sn47 ?_
     exact detK.mk
    refine sure_det (js := [(48, 135)]) (ts := []) (gd := none) (place_at HVS.out (k := 49) rfl) (by rw [HCS.out]; kernel_rfl) ?_ ?_
    ·intro wx hx ρ hρ hs hf; have hρc := hρ.const; have hρf := hρ.func; obtain ⟨sn48, -⟩ := hs; rw [place_at HVS.out (k := 48) rfl] at sn48; replace sn48 : ρ (.tmp 135) = _ := sn48
     clear hf
     clear HCS HVS qs3 qs6 qs10 qs11 qs13 qs14 qs15 qs16 qs17
     refine run_plain ?_
     refine op_move rfl sn48 ?_
     exact detK.mk
    refine sure_det (js := [(49, 136)]) (ts := [14]) (gd := (some (136, false))) (place_at HVS.out (k := 50) rfl) (by rw [HCS.out]; kernel_rfl) ?_ ?_
    ·intro wx hx ρ hρ hs hf; have hρc := hρ.const; have hρf := hρ.func; obtain ⟨sn49, -⟩ := hs
     obtain ⟨fx14, -⟩ := hf; rw [qs14] at fx14; rw [place_at HVS.out (k := 49) rfl] at sn49; replace sn49 : ρ (.tmp 136) = _ := sn49
     clear HCS HVS qs3 qs6 qs10 qs11 qs13 qs14 qs15 qs16 qs17
     first
      | (refine run_passed sn49 ?_; exact detK.mk)
      | (refine run_guarded sn49 ?_; unfold runs; go_simp; exact detK.mk)
    refine sure_det (js := [(50, 137), (49, 136)]) (ts := []) (gd := (some (136, false))) (place_at HVS.out (k := 51) rfl) (by rw [HCS.out]; kernel_rfl) ?_ ?_
    ·intro wx hx ρ hρ hs hf; have hρc := hρ.const; have hρf := hρ.func; obtain ⟨sn50, sn49, -⟩ := hs; rw [place_at HVS.out (k := 50) rfl] at sn50; replace sn50 : ρ (.tmp 137) = _ := sn50; rw [place_at HVS.out (k := 49) rfl] at sn49; replace sn49 : ρ (.tmp 136) = _ := sn49
     clear hf
     clear HCS HVS qs3 qs6 qs10 qs11 qs13 qs14 qs15 qs16 qs17
     first
      | (refine run_passed sn49 ?_; exact detK.mk)
      | (refine run_guarded sn49 ?_; obtain ⟨p0, p1, p2, p3, p4, p5, p6, -⟩ := hXa wx hx.drawn; unfold runs; go_simp; exact detK.mk)
    refine sure_det (js := [(49, 136)]) (ts := [3]) (gd := (some (136, false))) (place_at HVS.out (k := 52) rfl) (by rw [HCS.out]; kernel_rfl) ?_ ?_
    ·intro wx hx ρ hρ hs hf; have hρc := hρ.const; have hρf := hρ.func; obtain ⟨sn49, -⟩ := hs
     obtain ⟨fx3, -⟩ := hf; rw [qs3] at fx3; rw [place_at HVS.out (k := 49) rfl] at sn49; replace sn49 : ρ (.tmp 136) = _ := sn49
     clear HCS HVS qs3 qs6 qs10 qs11 qs13 qs14 qs15 qs16 qs17
     first
      | (refine run_passed sn49 ?_; exact detK.mk)
      | (refine run_guarded sn49 ?_; unfold runs; go_simp; exact detK.mk)
    refine sure_det (js := [(52, 139), (49, 136)]) (ts := []) (gd := (some (136, false))) (place_at HVS.out (k := 53) rfl) (by rw [HCS.out]; kernel_rfl) ?_ ?_
    ·intro wx hx ρ hρ hs hf; have hρc := hρ.const; have hρf := hρ.func; obtain ⟨sn52, sn49, -⟩ := hs; rw [place_at HVS.out (k := 52) rfl] at sn52; replace sn52 : ρ (.tmp 139) = _ := sn52; rw [place_at HVS.out (k := 49) rfl] at sn49; replace sn49 : ρ (.tmp 136) = _ := sn49
     clear hf
     clear HCS HVS qs3 qs6 qs10 qs11 qs13 qs14 qs15 qs16 qs17
     first
      | (refine run_passed sn49 ?_; exact detK.mk)
      | (refine run_guarded sn49 ?_; obtain ⟨p0, p1, p2, p3, p4, p5, p6, -⟩ := hXa wx hx.drawn; unfold runs; go_simp; exact detK.mk)
    refine sure_det (js := [(51, 138), (53, 140), (49, 136)]) (ts := []) (gd := (some (136, false))) (place_at HVS.out (k := 54) rfl) (by rw [HCS.out]; kernel_rfl) ?_ ?_
    ·intro wx hx ρ hρ hs hf; have hρc := hρ.const; have hρf := hρ.func; obtain ⟨sn51, sn53, sn49, -⟩ := hs; rw [place_at HVS.out (k := 51) rfl] at sn51; replace sn51 : ρ (.tmp 138) = _ := sn51; rw [place_at HVS.out (k := 53) rfl] at sn53; replace sn53 : ρ (.tmp 140) = _ := sn53; rw [place_at HVS.out (k := 49) rfl] at sn49; replace sn49 : ρ (.tmp 136) = _ := sn49
     clear hf
     clear HCS HVS qs3 qs6 qs10 qs11 qs13 qs14 qs15 qs16 qs17
     first
      | (refine run_passed sn49 ?_; exact detK.mk)
      | (refine run_guarded sn49 ?_; unfold runs; go_simp; exact detK.mk)
    refine sure_det (js := [(49, 136), (54, 141)]) (ts := []) (gd := none) (place_at HVS.out (k := 55) rfl) (by rw [HCS.out]; kernel_rfl) ?_ ?_
    ·intro wx hx ρ hρ hs hf; have hρc := hρ.const; have hρf := hρ.func; obtain ⟨sn49, sn54, -⟩ := hs; rw [place_at HVS.out (k := 49) rfl] at sn49; replace sn49 : ρ (.tmp 136) = _ := sn49; rw [place_at HVS.out (k := 54) rfl] at sn54; replace sn54 : ρ (.tmp 141) = _ := sn54
     clear hf
     clear HCS HVS qs3 qs6 qs10 qs11 qs13 qs14 qs15 qs16 qs17
     refine run_plain ?_
     first | refine op_pick_t rfl sn49 (hρ.const _) ?_ | refine op_pick_f rfl sn49 sn54 ?_
     exact detK.mk
    exact trivial
   case hend =>
    intro xs wx hx hg
    have gk0 : xs 0 = _ := goods_get hg (i := 0) (j := 0) (d := 87) rfl
    have gk1 : xs 1 = _ := goods_get hg (i := 1) (j := 1) (d := 88) rfl
    have gk2 : xs 2 = _ := goods_get hg (i := 2) (j := 2) (d := 89) rfl
    have gk3 : xs 3 = _ := goods_get hg (i := 3) (j := 3) (d := 90) rfl
    have gk4 : xs 4 = _ := goods_get hg (i := 4) (j := 4) (d := 91) rfl
    have gk5 : xs 5 = _ := goods_get hg (i := 5) (j := 5) (d := 92) rfl
    have gk6 : xs 6 = _ := goods_get hg (i := 6) (j := 6) (d := 93) rfl
    have gk7 : xs 7 = _ := goods_get hg (i := 7) (j := 7) (d := 94) rfl
    have gk8 : xs 8 = _ := goods_get hg (i := 8) (j := 8) (d := 95) rfl
    have gk9 : xs 9 = _ := goods_get hg (i := 9) (j := 9) (d := 96) rfl
    have gk10 : xs 10 = _ := goods_get hg (i := 10) (j := 10) (d := 97) rfl
    have gk11 : xs 11 = _ := goods_get hg (i := 11) (j := 11) (d := 98) rfl
    have gk12 : xs 12 = _ := goods_get hg (i := 12) (j := 12) (d := 99) rfl
    have gk13 : xs 13 = _ := goods_get hg (i := 13) (j := 13) (d := 100) rfl
    have gk14 : xs 14 = _ := goods_get hg (i := 14) (j := 14) (d := 101) rfl
    have gk15 : xs 15 = _ := goods_get hg (i := 15) (j := 15) (d := 102) rfl
    have gk16 : xs 16 = _ := goods_get hg (i := 16) (j := 16) (d := 103) rfl
    have gk17 : xs 17 = _ := goods_get hg (i := 17) (j := 17) (d := 104) rfl
    have gk18 : xs 18 = _ := goods_get hg (i := 18) (j := 18) (d := 105) rfl
    have gk19 : xs 19 = _ := goods_get hg (i := 19) (j := 19) (d := 106) rfl
    have gk20 : xs 20 = _ := goods_get hg (i := 20) (j := 20) (d := 107) rfl
    have gk21 : xs 21 = _ := goods_get hg (i := 21) (j := 21) (d := 108) rfl
    have gk22 : xs 22 = _ := goods_get hg (i := 22) (j := 22) (d := 109) rfl
    have gk23 : xs 23 = _ := goods_get hg (i := 23) (j := 23) (d := 110) rfl
    have gk24 : xs 24 = _ := goods_get hg (i := 24) (j := 24) (d := 111) rfl
    have gk25 : xs 25 = _ := goods_get hg (i := 25) (j := 25) (d := 112) rfl
    have gk26 : xs 26 = _ := goods_get hg (i := 26) (j := 26) (d := 113) rfl
    have gk27 : xs 27 = _ := goods_get hg (i := 27) (j := 27) (d := 114) rfl
    have gk28 : xs 28 = _ := goods_get hg (i := 28) (j := 28) (d := 115) rfl
    have gk29 : xs 29 = _ := goods_get hg (i := 29) (j := 29) (d := 116) rfl
    have gk30 : xs 30 = _ := goods_get hg (i := 30) (j := 30) (d := 117) rfl
    have gk31 : xs 31 = _ := goods_get hg (i := 31) (j := 31) (d := 118) rfl
    have gk32 : xs 32 = _ := goods_get hg (i := 32) (j := 32) (d := 119) rfl
    have gk33 : xs 33 = _ := goods_get hg (i := 33) (j := 33) (d := 120) rfl
    have gk34 : xs 34 = _ := goods_get hg (i := 34) (j := 34) (d := 121) rfl
    have gk35 : xs 35 = _ := goods_get hg (i := 35) (j := 35) (d := 122) rfl
    have gk36 : xs 36 = _ := goods_get hg (i := 36) (j := 36) (d := 123) rfl
    have gk37 : xs 37 = _ := goods_get hg (i := 37) (j := 37) (d := 124) rfl
    have gk38 : xs 38 = _ := goods_get hg (i := 38) (j := 38) (d := 125) rfl
    have gk39 : xs 39 = _ := goods_get hg (i := 39) (j := 39) (d := 126) rfl
    have gk40 : xs 40 = _ := goods_get hg (i := 40) (j := 40) (d := 127) rfl
    have gk41 : xs 41 = _ := goods_get hg (i := 41) (j := 41) (d := 128) rfl
    have gk42 : xs 42 = _ := goods_get hg (i := 42) (j := 42) (d := 129) rfl
    have gk43 : xs 43 = _ := goods_get hg (i := 43) (j := 43) (d := 130) rfl
    have gk44 : xs 44 = _ := goods_get hg (i := 44) (j := 44) (d := 131) rfl
    have gk45 : xs 45 = _ := goods_get hg (i := 45) (j := 45) (d := 132) rfl
    have gk46 : xs 46 = _ := goods_get hg (i := 46) (j := 46) (d := 133) rfl
    have gk47 : xs 47 = _ := goods_get hg (i := 47) (j := 47) (d := 134) rfl
    have gk48 : xs 48 = _ := goods_get hg (i := 48) (j := 48) (d := 135) rfl
    have gk49 : xs 49 = _ := goods_get hg (i := 49) (j := 49) (d := 136) rfl
    have gk50 : xs 50 = _ := goods_get hg (i := 50) (j := 50) (d := 137) rfl
    have gk51 : xs 51 = _ := goods_get hg (i := 51) (j := 51) (d := 138) rfl
    have gk52 : xs 52 = _ := goods_get hg (i := 52) (j := 52) (d := 139) rfl
    have gk53 : xs 53 = _ := goods_get hg (i := 53) (j := 53) (d := 140) rfl
    have gk54 : xs 54 = _ := goods_get hg (i := 54) (j := 54) (d := 141) rfl
    have gk55 : xs 55 = _ := goods_get hg (i := 55) (j := 55) (d := 142) rfl
    clear hg
    simp only [putAll, gk0, gk1, gk2, gk3, gk4, gk5, gk6, gk7, gk8, gk9, gk10, gk11, gk12, gk13, gk14, gk15, gk16, gk17, gk18, gk19, gk20, gk21, gk22, gk23, gk24, gk25, gk26, gk27, gk28, gk29, gk30, gk31, gk32, gk33, gk34, gk35, gk36, gk37, gk38, gk39, gk40, gk41, gk42, gk43, gk44, gk45, gk46, gk47, gk48, gk49, gk50, gk51, gk52, gk53, gk54, gk55]
    clear gk0 gk1 gk2 gk3 gk4 gk5 gk6 gk7 gk8 gk9 gk10 gk11 gk12 gk13 gk14 gk15 gk16 gk17 gk18 gk19 gk20 gk21 gk22 gk23 gk24 gk25 gk26 gk27 gk28 gk29 gk30 gk31 gk32 gk33 gk34 gk35 gk36 gk37 gk38 gk39 gk40 gk41 gk42 gk43 gk44 gk45 gk46 gk47 gk48 gk49 gk50 gk51 gk52 gk53 gk54 gk55
    clear xs
    simp only [Act.put, List.setIfInBounds_toArray, List.set_cons_zero, List.set_cons_succ]
    have hxx : Ext w6 wx := hx.drawn
    replace hda := heap_ext hda hxx
    replace hdq := heap_ext hdq hxx
    replace hW := hW.trans hxx
    replace hY0 := hY0.ext hxx
    clear hXa hx hxx
    go_upto_region 17 with (fail)
    generalize wx = Wq at *
    have a0 : Wq.cell? ⟨ga, 0, none⟩ = some (.int .u64 R) := by simp [World.cell?, hda]
    have a1 : Wq.cell? ⟨ga, 1, none⟩ = some (.slice (some aA) n1 c0) := by simp [World.cell?, hda]
    have a2 : Wq.cell? ⟨ga, 2, none⟩ = some (.slice A1 n1 c1) := by simp [World.cell?, hda]
    go_wp2_with fail
    refine (dcrash_any R _ _ n1 c0 n1 c1 l0 l1 M nM cM ms _ (h0.ext hW) (h1.ext hW) (by omega) (by omega) hR0 hR1 (hM.ext hW)).mono ?_
    rintro e w7 ⟨C0, C1, d0, d1, L0, L1, rfl, hC0, hC1, hcut0, hcut1, hx7⟩
    replace hda := heap_ext hda hx7
    replace hdq := heap_ext hdq hx7
    replace hW := hW.trans hx7
    replace hY0 := hY0.ext hx7
    clear hx7 a0 a1 a2
    go_upto_region 18 with (fail)
    have hwa : Ext w7 (w7.alloc (.cells #[.int .u64 R, .slice C0 n1 d0, .slice C1 n1 d1] 69)) := (Below.refl _ w7).alloc (Nat.le_refl _) _
    have hdc : (w7.alloc (.cells #[.int .u64 R, .slice C0 n1 d0, .slice C1 n1 d1] 69)).heap[w7.heap.size]? = some (.cells #[.int .u64 R, .slice C0 n1 d0, .slice C1 n1 d1] 69 (0, 0)) := heap_alloc_new w7 _
    replace hda := heap_ext hda hwa
    replace hdq := heap_ext hdq hwa
    replace hW := hW.trans hwa
    replace hY0 := hY0.ext hwa
    replace hC0 := hC0.ext hwa
    replace hC1 := hC1.ext hwa
    generalize w7.alloc (.cells #[.int .u64 R, .slice C0 n1 d0, .slice C1 n1 d1] 69) = W7 at *
    generalize w7.heap.size = gc at *
    clear hwa
    have hrt : rightD n1 n1 L0 L1 = true := by
     unfold rightD
     rw [decide_eq_true (by omega), Bool.true_and, List.all_eq_true]
     intro s hs
     rcases List.mem_append.1 hs with hs | hs
     ·exact hcut0.rights hlen0 s hs
     ·exact hcut1.rights hlen1 s hs
    have a0 : W7.cell? ⟨ga, 0, none⟩ = some (.int .u64 R) := by simp [World.cell?, hda]
    have a1 : W7.cell? ⟨ga, 1, none⟩ = some (.slice (some aA) n1 c0) := by simp [World.cell?, hda]
    have a2 : W7.cell? ⟨ga, 2, none⟩ = some (.slice A1 n1 c1) := by simp [World.cell?, hda]
    have b0 : W7.cell? ⟨gc, 0, none⟩ = some (.int .u64 R) := by simp [World.cell?, hdc]
    have b1 : W7.cell? ⟨gc, 1, none⟩ = some (.slice C0 n1 d0) := by simp [World.cell?, hdc]
    have b2 : W7.cell? ⟨gc, 2, none⟩ = some (.slice C1 n1 d1) := by simp [World.cell?, hdc]
    go_wp2_with fail
    refine (dright_any R C0 C1 n1 d0 n1 d1 L0 L1 _ hC0 hC1).mono ?_
    rw [hrt]
    rintro e Wb ⟨rfl, hx8⟩
    replace hda := heap_ext hda hx8
    replace hdq := heap_ext hdq hx8
    replace hdc := heap_ext hdc hx8
    replace hW := hW.trans hx8
    replace hY0 := hY0.ext hx8
    replace hC0 := hC0.ext hx8
    replace hC1 := hC1.ext hx8
    clear hx8 a0 a1 a2 b0 b1 b2 hrt
    go_wp2
    go_loopw [19] (fun x wr => Ext Wb wr ∧ (x = .int .i64 0 ∨ x = .int .i64 1 ∨ x = .int .i64 2)) (fun x _ => 2 - (intOf x).toNat)
    case atStart => exact ⟨Ext.refl _, .inl rfl⟩
    case round =>
     obtain ⟨hxo, rfl | rfl | rfl⟩ := hrel
     ·go_wp2
      go_loopw [20] (fun y wr => ∃ j : Nat, j ≤ n1 ∧ y = .int .i64 j ∧ Ext Wb wr) (fun y _ => n1 - (intOf y).toNat)
      case atStart => exact ⟨0, Nat.zero_le _, rfl, hxo⟩
      case round =>
       obtain ⟨j, hj, rfl, hxr⟩ := hrel
       have a1 : wr.cell? ⟨ga, 1, none⟩ = some (.slice (some aA) n1 c0) := hxr.cell (by simp [World.cell?, hda])
       rcases Nat.lt_or_ge j n1 with hjn | hjn
       ·have hini : (j : Int) < (n1 : Int) := by omega
        have hsx : l0[j]? = some (l0[j]'(by omega)) := List.getElem?_eq_getElem _
        have hum : l0[j]'(by omega) ∈ l0 := List.getElem_mem _
        generalize (l0[j]'(by omega)) = u at *
        have hcu := hcut0.2 j u hsx
        rw [if_pos hjn] at hcu
        generalize ms.getD j 0 = z at hcu
        obtain ⟨hu0, hu1⟩ := rightB_spec (hR0 u hum).1
        obtain ⟨aC, rfl, v0, v1, vok⟩ := hC0.at hcu
        obtain ⟨ax, hax, u0, u1, uok⟩ := (h0.ext hW).at hsx
        have hax2 := Option.some.inj hax
        clear hax
        rw [← hax2] at u0 u1
        clear hax2
        rcases Decidable.em (j = k) with hjk | hjk
        ·subst hjk
         have hX : ∀ wx, Ext wr wx → wx.cell? ⟨ga, 1, none⟩ = some (.slice (some aA) n1 c0) ∧ wx.cell? ⟨gq, 1, none⟩ = some (.slice Y n1 cy) ∧ wx.cell? (aA.add (j * 2)) = some (.slice u.D u.q u.cd) ∧ wx.cell? ⟨(aA.add (j * 2)).block, (aA.add (j * 2)).off + 1, none⟩ = some (.int .i64 u.k) ∧ Ext Wb wx := fun wx hx =>
          ⟨(hxr.trans hx).cell (by simp [World.cell?, hda]), (hxr.trans hx).cell (by simp [World.cell?, hdq]), (hxr.trans hx).cell u0, (hxr.trans hx).cell u1, hxr.trans hx⟩
         have hsame := fun wx (h : Ext Wb wx) => same_yes u.D u.D u.q u.cd u.cd u.k u.d wx (StOK.ext uok h) (StOK.ext uok h)
         go_upto_region 26 with (fail)
         refine' wp_region_sure_all ⟨((some 190, [], none) :: (some 191, [], none) :: (some 192, [0, 1], none) :: (some 193, [2], none) :: (some 194, [3], some (3, false)) :: (some 195, [3], some (3, false)) :: (some 196, [4, 5, 3], some (3, false)) :: (some 197, [3, 6], none) :: (some 198, [7, 3], none) :: (some 199, [8], some (8, true)) :: (some 200, [8], some (8, true)) :: (some 201, [10, 9, 8], some (8, true)) :: (some 202, [11, 8], some (8, true)) :: (some 203, [8], some (8, true)) :: (some 204, [12, 13, 8], some (8, true)) :: (some 205, [14, 8], some (8, true)) :: (some 206, [8], some (8, true)) :: (some 207, [8], some (8, true)) :: (some 208, [17, 16, 8], some (8, true)) :: (some 209, [18, 8], some (8, true)) :: (some 210, [8], some (8, true)) :: (some 211, [19, 20, 8], some (8, true)) :: (some 212, [21, 8], some (8, true)) :: (some 213, [15, 22, 8, 8], some (8, true)) :: (some 214, [23, 8], some (8, true)) :: (some 215, [8, 24], none) :: []), (0 :: 0 :: 3 :: 7 :: 15 :: 15 :: 63 :: 127 :: 255 :: 511 :: 511 :: 2047 :: 4095 :: 511 :: 16383 :: 32767 :: 511 :: 511 :: 197119 :: 459263 :: 511 :: 2032127 :: 4129279 :: 8388607 :: 16777215 :: 33554431 :: []), (true :: true :: true :: true :: true :: true :: true :: true :: true :: true :: true :: true :: true :: true :: true :: true :: true :: true :: true :: true :: true :: true :: true :: true :: true :: true :: []), [], 0⟩ 26 318 ((0, 190) :: (1, 191) :: (2, 192) :: (3, 193) :: (4, 194) :: (5, 195) :: (6, 196) :: (7, 197) :: (8, 198) :: (9, 199) :: (10, 200) :: (11, 201) :: (12, 202) :: (13, 203) :: (14, 204) :: (15, 205) :: (16, 206) :: (17, 207) :: (18, 208) :: (19, 209) :: (20, 210) :: (21, 211) :: (22, 212) :: (23, 213) :: (24, 214) :: (25, 215) :: []) ((0, 190) :: (1, 191) :: (2, 192) :: (3, 193) :: (4, 194) :: (5, 195) :: (6, 196) :: (7, 197) :: (8, 198) :: (9, 199) :: (10, 200) :: (11, 201) :: (12, 202) :: (13, 203) :: (14, 204) :: (15, 205) :: (16, 206) :: (17, 207) :: (18, 208) :: (19, 209) :: (20, 210) :: (21, 211) :: (22, 212) :: (23, 213) :: (24, 214) :: (25, 215) :: []) (.det _ :: .det _ :: .det _ :: .det _ :: .det _ :: .det _ :: .det _ :: .det _ :: .det _ :: .det _ :: .det _ :: .det _ :: .det _ :: .det _ :: .det _ :: .det _ :: .det _ :: .det _ :: .det _ :: .det _ :: .det _ :: .det _ :: .det _ :: .det _ :: .det _ :: .det _ :: []) (by kernel_rfl) (by kernel_rfl) (by kernel_rfl) rfl (by kernel_rfl) (by kernel_rfl) rfl (by kernel_rfl) ?hone ?hend
         case hone =>
          intro CS frS VS hCS ha hV
          have qs3 := slot_val (t := 3) ha rfl
          simp only [List.getElem_toArray, List.getElem_cons_succ, List.getElem_cons_zero] at qs3
          have qs10 := slot_val (t := 10) ha rfl
          simp only [List.getElem_toArray, List.getElem_cons_succ, List.getElem_cons_zero] at qs10
          have qs11 := slot_val (t := 11) ha rfl
          simp only [List.getElem_toArray, List.getElem_cons_succ, List.getElem_cons_zero] at qs11
          have qs14 := slot_val (t := 14) ha rfl
          simp only [List.getElem_toArray, List.getElem_cons_succ, List.getElem_cons_zero] at qs14
          have qs19 := slot_val (t := 19) ha rfl
          simp only [List.getElem_toArray, List.getElem_cons_succ, List.getElem_cons_zero] at qs19
          have qs20 := slot_val (t := 20) ha rfl
          simp only [List.getElem_toArray, List.getElem_cons_succ, List.getElem_cons_zero] at qs20
          have HCS := Lib.hid hCS
          have HVS := Lib.hid hV
          clear ha hCS hV
          refine sure_det (js := []) (ts := [19]) (gd := none) (place_at HVS.out (k := 0) rfl) (by rw [HCS.out]; kernel_rfl) ?_ ?_
          ·intro wx hx ρ hρ hs hf; have hρc := hρ.const; have hρf := hρ.func
           obtain ⟨fx19, -⟩ := hf; rw [qs19] at fx19
           clear hs
           clear HCS HVS qs3 qs10 qs11 qs14 qs19 qs20
           refine run_plain ?_
           refine op_move rfl fx19 ?_
           exact detK.mk
          refine sure_det (js := []) (ts := [10]) (gd := none) (place_at HVS.out (k := 1) rfl) (by rw [HCS.out]; kernel_rfl) ?_ ?_
          ·intro wx hx ρ hρ hs hf; have hρc := hρ.const; have hρf := hρ.func
           obtain ⟨fx10, -⟩ := hf; rw [qs10] at fx10
           clear hs
           clear HCS HVS qs3 qs10 qs11 qs14 qs19 qs20
           refine run_plain ?_
           refine op_move rfl fx10 ?_
           exact detK.mk
          refine sure_det (js := [(0, 190), (1, 191)]) (ts := []) (gd := none) (place_at HVS.out (k := 2) rfl) (by rw [HCS.out]; kernel_rfl) ?_ ?_
          ·intro wx hx ρ hρ hs hf; have hρc := hρ.const; have hρf := hρ.func; obtain ⟨sn0, sn1, -⟩ := hs; rw [place_at HVS.out (k := 0) rfl] at sn0; replace sn0 : ρ (.tmp 190) = _ := sn0; rw [place_at HVS.out (k := 1) rfl] at sn1; replace sn1 : ρ (.tmp 191) = _ := sn1
           clear hf
           clear HCS HVS qs3 qs10 qs11 qs14 qs19 qs20
           refine run_plain ?_
           unfold runs
           go_simp
           exact detK.mk
          refine sure_det (js := [(2, 192)]) (ts := []) (gd := none) (place_at HVS.out (k := 3) rfl) (by rw [HCS.out]; kernel_rfl) ?_ ?_
          ·intro wx hx ρ hρ hs hf; have hρc := hρ.const; have hρf := hρ.func; obtain ⟨sn2, -⟩ := hs; rw [place_at HVS.out (k := 2) rfl] at sn2; replace sn2 : ρ (.tmp 192) = _ := sn2
           clear hf
           clear HCS HVS qs3 qs10 qs11 qs14 qs19 qs20
           refine run_plain ?_
           refine op_move rfl sn2 ?_
           exact detK.mk
          refine sure_det (js := [(3, 193)]) (ts := [20]) (gd := (some (193, false))) (place_at HVS.out (k := 4) rfl) (by rw [HCS.out]; kernel_rfl) ?_ ?_
          ·intro wx hx ρ hρ hs hf; have hρc := hρ.const; have hρf := hρ.func; obtain ⟨sn3, -⟩ := hs
           obtain ⟨fx20, -⟩ := hf; rw [qs20] at fx20; rw [place_at HVS.out (k := 3) rfl] at sn3; replace sn3 : ρ (.tmp 193) = _ := sn3
           clear HCS HVS qs3 qs10 qs11 qs14 qs19 qs20
           first
            | (refine run_passed sn3 ?_; exact detK.mk)
            | (refine run_guarded sn3 ?_; refine op_move rfl fx20 ?_; exact detK.mk)
          refine sure_det (js := [(3, 193)]) (ts := [11]) (gd := (some (193, false))) (place_at HVS.out (k := 5) rfl) (by rw [HCS.out]; kernel_rfl) ?_ ?_
          ·intro wx hx ρ hρ hs hf; have hρc := hρ.const; have hρf := hρ.func; obtain ⟨sn3, -⟩ := hs
           obtain ⟨fx11, -⟩ := hf; rw [qs11] at fx11; rw [place_at HVS.out (k := 3) rfl] at sn3; replace sn3 : ρ (.tmp 193) = _ := sn3
           clear HCS HVS qs3 qs10 qs11 qs14 qs19 qs20
           first
            | (refine run_passed sn3 ?_; exact detK.mk)
            | (refine run_guarded sn3 ?_; refine op_move rfl fx11 ?_; exact detK.mk)
          refine sure_det (js := [(4, 194), (5, 195), (3, 193)]) (ts := []) (gd := (some (193, false))) (place_at HVS.out (k := 6) rfl) (by rw [HCS.out]; kernel_rfl) ?_ ?_
          ·intro wx hx ρ hρ hs hf; have hρc := hρ.const; have hρf := hρ.func; obtain ⟨sn4, sn5, sn3, -⟩ := hs; rw [place_at HVS.out (k := 4) rfl] at sn4; replace sn4 : ρ (.tmp 194) = _ := sn4; rw [place_at HVS.out (k := 5) rfl] at sn5; replace sn5 : ρ (.tmp 195) = _ := sn5; rw [place_at HVS.out (k := 3) rfl] at sn3; replace sn3 : ρ (.tmp 193) = _ := sn3
           clear hf
           clear HCS HVS qs3 qs10 qs11 qs14 qs19 qs20
           first
            | (refine run_passed sn3 ?_; exact detK.mk)
            | (refine run_guarded sn3 ?_; unfold runs; go_simp; exact detK.mk)
          refine sure_det (js := [(3, 193), (6, 196)]) (ts := []) (gd := none) (place_at HVS.out (k := 7) rfl) (by rw [HCS.out]; kernel_rfl) ?_ ?_
          ·intro wx hx ρ hρ hs hf; have hρc := hρ.const; have hρf := hρ.func; obtain ⟨sn3, sn6, -⟩ := hs; rw [place_at HVS.out (k := 3) rfl] at sn3; replace sn3 : ρ (.tmp 193) = _ := sn3; rw [place_at HVS.out (k := 6) rfl] at sn6; replace sn6 : ρ (.tmp 196) = _ := sn6
           clear hf
           clear HCS HVS qs3 qs10 qs11 qs14 qs19 qs20
           refine run_plain ?_
           first | refine op_pick_t rfl sn3 (hρ.const _) ?_ | refine op_pick_f rfl sn3 sn6 ?_
           exact detK.mk
          refine sure_det (js := [(7, 197)]) (ts := []) (gd := none) (place_at HVS.out (k := 8) rfl) (by rw [HCS.out]; kernel_rfl) ?_ ?_
          ·intro wx hx ρ hρ hs hf; have hρc := hρ.const; have hρf := hρ.func; obtain ⟨sn7, -⟩ := hs; rw [place_at HVS.out (k := 7) rfl] at sn7; replace sn7 : ρ (.tmp 197) = _ := sn7
           clear hf
           clear HCS HVS qs3 qs10 qs11 qs14 qs19 qs20
           refine run_plain ?_
           refine op_move rfl sn7 ?_
           exact detK.mk
          refine sure_det (js := [(8, 198)]) (ts := [19]) (gd := (some (198, true))) (place_at HVS.out (k := 9) rfl) (by rw [HCS.out]; kernel_rfl) ?_ ?_
          ·intro wx hx ρ hρ hs hf; have hρc := hρ.const; have hρf := hρ.func; obtain ⟨sn8, -⟩ := hs
           obtain ⟨fx19, -⟩ := hf; rw [qs19] at fx19; rw [place_at HVS.out (k := 8) rfl] at sn8; replace sn8 : ρ (.tmp 198) = _ := sn8
           clear HCS HVS qs3 qs10 qs11 qs14 qs19 qs20
           first
            | (refine run_passed sn8 ?_; exact detK.mk)
            | (refine run_guarded sn8 ?_; refine op_move rfl fx19 ?_; exact detK.mk)
          refine sure_det (js := [(8, 198)]) (ts := [14]) (gd := (some (198, true))) (place_at HVS.out (k := 10) rfl) (by rw [HCS.out]; kernel_rfl) ?_ ?_
          ·intro wx hx ρ hρ hs hf; have hρc := hρ.const; have hρf := hρ.func; obtain ⟨sn8, -⟩ := hs
           obtain ⟨fx14, -⟩ := hf; rw [qs14] at fx14; rw [place_at HVS.out (k := 8) rfl] at sn8; replace sn8 : ρ (.tmp 198) = _ := sn8
           clear HCS HVS qs3 qs10 qs11 qs14 qs19 qs20
           first
            | (refine run_passed sn8 ?_; exact detK.mk)
            | (refine run_guarded sn8 ?_; unfold runs; go_simp; exact detK.mk)
          refine sure_det (js := [(10, 200), (9, 199), (8, 198)]) (ts := []) (gd := (some (198, true))) (place_at HVS.out (k := 11) rfl) (by rw [HCS.out]; kernel_rfl) ?_ ?_
          ·intro wx hx ρ hρ hs hf; have hρc := hρ.const; have hρf := hρ.func; obtain ⟨sn10, sn9, sn8, -⟩ := hs; rw [place_at HVS.out (k := 10) rfl] at sn10; replace sn10 : ρ (.tmp 200) = _ := sn10; rw [place_at HVS.out (k := 9) rfl] at sn9; replace sn9 : ρ (.tmp 199) = _ := sn9; rw [place_at HVS.out (k := 8) rfl] at sn8; replace sn8 : ρ (.tmp 198) = _ := sn8
           clear hf
           clear HCS HVS qs3 qs10 qs11 qs14 qs19 qs20
           first
            | (refine run_passed sn8 ?_; exact detK.mk)
            | (refine run_guarded sn8 ?_; unfold runs; go_simp; exact detK.mk)
          refine sure_det (js := [(11, 201), (8, 198)]) (ts := []) (gd := (some (198, true))) (place_at HVS.out (k := 12) rfl) (by rw [HCS.out]; kernel_rfl) ?_ ?_
          ·intro wx hx ρ hρ hs hf; have hρc := hρ.const; have hρf := hρ.func; obtain ⟨sn11, sn8, -⟩ := hs; rw [place_at HVS.out (k := 11) rfl] at sn11; replace sn11 : ρ (.tmp 201) = _ := sn11; rw [place_at HVS.out (k := 8) rfl] at sn8; replace sn8 : ρ (.tmp 198) = _ := sn8
           clear hf
           clear HCS HVS qs3 qs10 qs11 qs14 qs19 qs20
           first
            | (refine run_passed sn8 ?_; exact detK.mk)
            | (refine run_guarded sn8 ?_; obtain ⟨p0, p1, p2, p3, -⟩ := hX wx hx.drawn; unfold runs; go_simp; exact detK.mk)
          refine sure_det (js := [(8, 198)]) (ts := [20]) (gd := (some (198, true))) (place_at HVS.out (k := 13) rfl) (by rw [HCS.out]; kernel_rfl) ?_ ?_
          ·intro wx hx ρ hρ hs hf; have hρc := hρ.const; have hρf := hρ.func; obtain ⟨sn8, -⟩ := hs
           obtain ⟨fx20, -⟩ := hf; rw [qs20] at fx20; rw [place_at HVS.out (k := 8) rfl] at sn8; replace sn8 : ρ (.tmp 198) = _ := sn8
           clear HCS HVS qs3 qs10 qs11 qs14 qs19 qs20
           first
            | (refine run_passed sn8 ?_; exact detK.mk)
            | (refine run_guarded sn8 ?_; refine op_move rfl fx20 ?_; exact detK.mk)
          refine sure_det (js := [(12, 202), (13, 203), (8, 198)]) (ts := []) (gd := (some (198, true))) (place_at HVS.out (k := 14) rfl) (by rw [HCS.out]; kernel_rfl) ?_ ?_
          ·intro wx hx ρ hρ hs hf; have hρc := hρ.const; have hρf := hρ.func; obtain ⟨sn12, sn13, sn8, -⟩ := hs; rw [place_at HVS.out (k := 12) rfl] at sn12; replace sn12 : ρ (.tmp 202) = _ := sn12; rw [place_at HVS.out (k := 13) rfl] at sn13; replace sn13 : ρ (.tmp 203) = _ := sn13; rw [place_at HVS.out (k := 8) rfl] at sn8; replace sn8 : ρ (.tmp 198) = _ := sn8
           clear hf
           clear HCS HVS qs3 qs10 qs11 qs14 qs19 qs20
           first
            | (refine run_passed sn8 ?_; exact detK.mk)
            | (refine run_guarded sn8 ?_; unfold runs; go_simp; exact detK.mk)
          refine sure_det (js := [(14, 204), (8, 198)]) (ts := []) (gd := (some (198, true))) (place_at HVS.out (k := 15) rfl) (by rw [HCS.out]; kernel_rfl) ?_ ?_
          ·intro wx hx ρ hρ hs hf; have hρc := hρ.const; have hρf := hρ.func; obtain ⟨sn14, sn8, -⟩ := hs; rw [place_at HVS.out (k := 14) rfl] at sn14; replace sn14 : ρ (.tmp 204) = _ := sn14; rw [place_at HVS.out (k := 8) rfl] at sn8; replace sn8 : ρ (.tmp 198) = _ := sn8
           clear hf
           clear HCS HVS qs3 qs10 qs11 qs14 qs19 qs20
           first
            | (refine run_passed sn8 ?_; exact detK.mk)
            | (refine run_guarded sn8 ?_; obtain ⟨p0, p1, p2, p3, -⟩ := hX wx hx.drawn; unfold runs; go_simp; exact detK.mk)
          refine sure_det (js := [(8, 198)]) (ts := [19]) (gd := (some (198, true))) (place_at HVS.out (k := 16) rfl) (by rw [HCS.out]; kernel_rfl) ?_ ?_
          ·intro wx hx ρ hρ hs hf; have hρc := hρ.const; have hρf := hρ.func; obtain ⟨sn8, -⟩ := hs
           obtain ⟨fx19, -⟩ := hf; rw [qs19] at fx19; rw [place_at HVS.out (k := 8) rfl] at sn8; replace sn8 : ρ (.tmp 198) = _ := sn8
           clear HCS HVS qs3 qs10 qs11 qs14 qs19 qs20
           first
            | (refine run_passed sn8 ?_; exact detK.mk)
            | (refine run_guarded sn8 ?_; refine op_move rfl fx19 ?_; exact detK.mk)
          refine sure_det (js := [(8, 198)]) (ts := [3]) (gd := (some (198, true))) (place_at HVS.out (k := 17) rfl) (by rw [HCS.out]; kernel_rfl) ?_ ?_
          ·intro wx hx ρ hρ hs hf; have hρc := hρ.const; have hρf := hρ.func; obtain ⟨sn8, -⟩ := hs
           obtain ⟨fx3, -⟩ := hf; rw [qs3] at fx3; rw [place_at HVS.out (k := 8) rfl] at sn8; replace sn8 : ρ (.tmp 198) = _ := sn8
           clear HCS HVS qs3 qs10 qs11 qs14 qs19 qs20
           first
            | (refine run_passed sn8 ?_; exact detK.mk)
            | (refine run_guarded sn8 ?_; unfold runs; go_simp; exact detK.mk)
          refine sure_det (js := [(17, 207), (16, 206), (8, 198)]) (ts := []) (gd := (some (198, true))) (place_at HVS.out (k := 18) rfl) (by rw [HCS.out]; kernel_rfl) ?_ ?_
          ·intro wx hx ρ hρ hs hf; have hρc := hρ.const; have hρf := hρ.func; obtain ⟨sn17, sn16, sn8, -⟩ := hs; rw [place_at HVS.out (k := 17) rfl] at sn17; replace sn17 : ρ (.tmp 207) = _ := sn17; rw [place_at HVS.out (k := 16) rfl] at sn16; replace sn16 : ρ (.tmp 206) = _ := sn16; rw [place_at HVS.out (k := 8) rfl] at sn8; replace sn8 : ρ (.tmp 198) = _ := sn8
           clear hf
           clear HCS HVS qs3 qs10 qs11 qs14 qs19 qs20
           first
            | (refine run_passed sn8 ?_; exact detK.mk)
            | (refine run_guarded sn8 ?_; unfold runs; go_simp; exact detK.mk)
          refine sure_det (js := [(18, 208), (8, 198)]) (ts := []) (gd := (some (198, true))) (place_at HVS.out (k := 19) rfl) (by rw [HCS.out]; kernel_rfl) ?_ ?_
          ·intro wx hx ρ hρ hs hf; have hρc := hρ.const; have hρf := hρ.func; obtain ⟨sn18, sn8, -⟩ := hs; rw [place_at HVS.out (k := 18) rfl] at sn18; replace sn18 : ρ (.tmp 208) = _ := sn18; rw [place_at HVS.out (k := 8) rfl] at sn8; replace sn8 : ρ (.tmp 198) = _ := sn8
           clear hf
           clear HCS HVS qs3 qs10 qs11 qs14 qs19 qs20
           first
            | (refine run_passed sn8 ?_; exact detK.mk)
            | (refine run_guarded sn8 ?_; obtain ⟨p0, p1, p2, p3, -⟩ := hX wx hx.drawn; unfold runs; go_simp; exact detK.mk)
          refine sure_det (js := [(8, 198)]) (ts := [20]) (gd := (some (198, true))) (place_at HVS.out (k := 20) rfl) (by rw [HCS.out]; kernel_rfl) ?_ ?_
          ·intro wx hx ρ hρ hs hf; have hρc := hρ.const; have hρf := hρ.func; obtain ⟨sn8, -⟩ := hs
           obtain ⟨fx20, -⟩ := hf; rw [qs20] at fx20; rw [place_at HVS.out (k := 8) rfl] at sn8; replace sn8 : ρ (.tmp 198) = _ := sn8
           clear HCS HVS qs3 qs10 qs11 qs14 qs19 qs20
           first
            | (refine run_passed sn8 ?_; exact detK.mk)
            | (refine run_guarded sn8 ?_; refine op_move rfl fx20 ?_; exact detK.mk)
          refine sure_det (js := [(19, 209), (20, 210), (8, 198)]) (ts := []) (gd := (some (198, true))) (place_at HVS.out (k := 21) rfl) (by rw [HCS.out]; kernel_rfl) ?_ ?_
          ·intro wx hx ρ hρ hs hf; have hρc := hρ.const; have hρf := hρ.func; obtain ⟨sn19, sn20, sn8, -⟩ := hs; rw [place_at HVS.out (k := 19) rfl] at sn19; replace sn19 : ρ (.tmp 209) = _ := sn19; rw [place_at HVS.out (k := 20) rfl] at sn20; replace sn20 : ρ (.tmp 210) = _ := sn20; rw [place_at HVS.out (k := 8) rfl] at sn8; replace sn8 : ρ (.tmp 198) = _ := sn8
           clear hf
           clear HCS HVS qs3 qs10 qs11 qs14 qs19 qs20
           first
            | (refine run_passed sn8 ?_; exact detK.mk)
            | (refine run_guarded sn8 ?_; unfold runs; go_simp; exact detK.mk)
          refine sure_det (js := [(21, 211), (8, 198)]) (ts := []) (gd := (some (198, true))) (place_at HVS.out (k := 22) rfl) (by rw [HCS.out]; kernel_rfl) ?_ ?_
          ·intro wx hx ρ hρ hs hf; have hρc := hρ.const; have hρf := hρ.func; obtain ⟨sn21, sn8, -⟩ := hs; rw [place_at HVS.out (k := 21) rfl] at sn21; replace sn21 : ρ (.tmp 211) = _ := sn21; rw [place_at HVS.out (k := 8) rfl] at sn8; replace sn8 : ρ (.tmp 198) = _ := sn8
           clear hf
           clear HCS HVS qs3 qs10 qs11 qs14 qs19 qs20
           first
            | (refine run_passed sn8 ?_; exact detK.mk)
            | (refine run_guarded sn8 ?_; obtain ⟨p0, p1, p2, p3, -⟩ := hX wx hx.drawn; unfold runs; go_simp; exact detK.mk)
          refine sure_det (js := [(15, 205), (22, 212), (8, 198)]) (ts := []) (gd := (some (198, true))) (place_at HVS.out (k := 23) rfl) (by rw [HCS.out]; kernel_rfl) ?_ ?_
          ·intro wx hx ρ hρ hs hf; have hρc := hρ.const; have hρf := hρ.func; obtain ⟨sn15, sn22, sn8, -⟩ := hs; rw [place_at HVS.out (k := 15) rfl] at sn15; replace sn15 : ρ (.tmp 205) = _ := sn15; rw [place_at HVS.out (k := 22) rfl] at sn22; replace sn22 : ρ (.tmp 212) = _ := sn22; rw [place_at HVS.out (k := 8) rfl] at sn8; replace sn8 : ρ (.tmp 198) = _ := sn8
           clear hf
           clear HCS HVS qs3 qs10 qs11 qs14 qs19 qs20
           first
            | (refine run_passed sn8 ?_; exact detK.mk)
            | (refine run_guarded sn8 ?_; refine op_call rfl hρ Try.call51 (map_two sn15 sn22) ?_; refine Calls.mono (hsame _ (hX _ hx.drawn).2.2.2.2) ?_; rintro e w' ⟨rfl, hx5⟩; refine ⟨_, rfl, ?_⟩; exact detK.ext hx5)
          refine sure_det (js := [(23, 213), (8, 198)]) (ts := []) (gd := (some (198, true))) (place_at HVS.out (k := 24) rfl) (by rw [HCS.out]; kernel_rfl) ?_ ?_
          ·intro wx hx ρ hρ hs hf; have hρc := hρ.const; have hρf := hρ.func; obtain ⟨sn23, sn8, -⟩ := hs; rw [place_at HVS.out (k := 23) rfl] at sn23; replace sn23 : ρ (.tmp 213) = _ := sn23; rw [place_at HVS.out (k := 8) rfl] at sn8; replace sn8 : ρ (.tmp 198) = _ := sn8
           clear hf
           clear HCS HVS qs3 qs10 qs11 qs14 qs19 qs20
           first
            | (refine run_passed sn8 ?_; exact detK.mk)
            | (refine run_guarded sn8 ?_; unfold runs; go_simp; exact detK.mk)
          refine sure_det (js := [(8, 198), (24, 214)]) (ts := []) (gd := none) (place_at HVS.out (k := 25) rfl) (by rw [HCS.out]; kernel_rfl) ?_ ?_
          ·intro wx hx ρ hρ hs hf; have hρc := hρ.const; have hρf := hρ.func; obtain ⟨sn8, sn24, -⟩ := hs; rw [place_at HVS.out (k := 8) rfl] at sn8; replace sn8 : ρ (.tmp 198) = _ := sn8; rw [place_at HVS.out (k := 24) rfl] at sn24; replace sn24 : ρ (.tmp 214) = _ := sn24
           clear hf
           clear HCS HVS qs3 qs10 qs11 qs14 qs19 qs20
           refine run_plain ?_
           first | refine op_pick_t rfl sn8 sn24 ?_ | refine op_pick_f rfl sn8 (hρ.const _) ?_
           exact detK.mk
          exact trivial
         case hend =>
          intro xs wx hx hg
          have gk0 : xs 0 = _ := goods_get hg (i := 0) (j := 0) (d := 190) rfl
          have gk1 : xs 1 = _ := goods_get hg (i := 1) (j := 1) (d := 191) rfl
          have gk2 : xs 2 = _ := goods_get hg (i := 2) (j := 2) (d := 192) rfl
          have gk3 : xs 3 = _ := goods_get hg (i := 3) (j := 3) (d := 193) rfl
          have gk4 : xs 4 = _ := goods_get hg (i := 4) (j := 4) (d := 194) rfl
          have gk5 : xs 5 = _ := goods_get hg (i := 5) (j := 5) (d := 195) rfl
          have gk6 : xs 6 = _ := goods_get hg (i := 6) (j := 6) (d := 196) rfl
          have gk7 : xs 7 = _ := goods_get hg (i := 7) (j := 7) (d := 197) rfl
          have gk8 : xs 8 = _ := goods_get hg (i := 8) (j := 8) (d := 198) rfl
          have gk9 : xs 9 = _ := goods_get hg (i := 9) (j := 9) (d := 199) rfl
          have gk10 : xs 10 = _ := goods_get hg (i := 10) (j := 10) (d := 200) rfl
          have gk11 : xs 11 = _ := goods_get hg (i := 11) (j := 11) (d := 201) rfl
          have gk12 : xs 12 = _ := goods_get hg (i := 12) (j := 12) (d := 202) rfl
          have gk13 : xs 13 = _ := goods_get hg (i := 13) (j := 13) (d := 203) rfl
          have gk14 : xs 14 = _ := goods_get hg (i := 14) (j := 14) (d := 204) rfl
          have gk15 : xs 15 = _ := goods_get hg (i := 15) (j := 15) (d := 205) rfl
          have gk16 : xs 16 = _ := goods_get hg (i := 16) (j := 16) (d := 206) rfl
          have gk17 : xs 17 = _ := goods_get hg (i := 17) (j := 17) (d := 207) rfl
          have gk18 : xs 18 = _ := goods_get hg (i := 18) (j := 18) (d := 208) rfl
          have gk19 : xs 19 = _ := goods_get hg (i := 19) (j := 19) (d := 209) rfl
          have gk20 : xs 20 = _ := goods_get hg (i := 20) (j := 20) (d := 210) rfl
          have gk21 : xs 21 = _ := goods_get hg (i := 21) (j := 21) (d := 211) rfl
          have gk22 : xs 22 = _ := goods_get hg (i := 22) (j := 22) (d := 212) rfl
          have gk23 : xs 23 = _ := goods_get hg (i := 23) (j := 23) (d := 213) rfl
          have gk24 : xs 24 = _ := goods_get hg (i := 24) (j := 24) (d := 214) rfl
          have gk25 : xs 25 = _ := goods_get hg (i := 25) (j := 25) (d := 215) rfl
          clear hg
          simp only [putAll, gk0, gk1, gk2, gk3, gk4, gk5, gk6, gk7, gk8, gk9, gk10, gk11, gk12, gk13, gk14, gk15, gk16, gk17, gk18, gk19, gk20, gk21, gk22, gk23, gk24, gk25]
          clear gk0 gk1 gk2 gk3 gk4 gk5 gk6 gk7 gk8 gk9 gk10 gk11 gk12 gk13 gk14 gk15 gk16 gk17 gk18 gk19 gk20 gk21 gk22 gk23 gk24 gk25
          clear xs
          simp only [Act.put, List.setIfInBounds_toArray, List.set_cons_zero, List.set_cons_succ]
          have hxr2 := hxr.trans hx.drawn
          clear hX hx hsame hxr a1
          go_upto_region 28 with (fail)
          generalize wx = Wy at *
          have b1 : Wy.cell? ⟨gc, 1, none⟩ = some (.slice (some aC) n1 d0) := hxr2.cell (by simp [World.cell?, hdc])
          have c0' := hxr2.cell v0
          have c1' := hxr2.cell v1
          go_upto_region 29 with (fail)
          have hwz : Ext Wy (Wy.alloc (.cells #[.slice (u.cut z).D (u.cut z).q (u.cut z).cd, .int .i64 (u.cut z).k] 94)) := (Below.refl _ Wy).alloc (Nat.le_refl _) _
          have hdz : (Wy.alloc (.cells #[.slice (u.cut z).D (u.cut z).q (u.cut z).cd, .int .i64 (u.cut z).k] 94)).heap[Wy.heap.size]? = some (.cells #[.slice (u.cut z).D (u.cut z).q (u.cut z).cd, .int .i64 (u.cut z).k] 94 (0, 0)) := heap_alloc_new Wy _
          generalize Wy.alloc (.cells #[.slice (u.cut z).D (u.cut z).q (u.cut z).cd, .int .i64 (u.cut z).k] 94) = Wz at *
          generalize Wy.heap.size = gz at *
          have hxz := hxr2.trans hwz
          have hge := cutN_ge (more := z) hu0 hu1
          have hle := cutN_le (more := z) hu0 hu1
          have hvz := StOK.ext vok hxz
          have huz := StOK.ext uok hxz
          clear b1 c0' c1' hwz hxr2
          simp only [St.cut] at hdz hvz
          simp only [St.cut]
          generalize cutN u.q u.k z = N at *
          have hge' : ¬ (N : Int) < u.k := by omega
          have hle' : ¬ (u.q : Int) < (N : Int) := by omega
          have hbu := BytesV.upto huz hle
          have hcd : N ≤ u.cd := Nat.le_trans hle (BytesV.le huz)
          have hsl := fun W => run_slice_hi (P := Try.prog) 27 5 i0 Try.underlying27 hi0 u.D u.q u.cd N hcd W
          have hX : ∀ wx, Ext Wz wx → wx.cell? ⟨ga, 1, none⟩ = some (.slice (some aA) n1 c0) ∧ wx.cell? ⟨gz, 0, none⟩ = some (.slice u.D N N) ∧ wx.cell? ⟨gz, 1, none⟩ = some (.int .i64 N) ∧ wx.cell? (aA.add (j * 2)) = some (.slice u.D u.q u.cd) ∧ wx.cell? ⟨(aA.add (j * 2)).block, (aA.add (j * 2)).off + 1, none⟩ = some (.int .i64 u.k) ∧ Ext Wz wx := fun wx hx =>
           ⟨(hxz.trans hx).cell (by simp [World.cell?, hda]), hx.cell (by simp [World.cell?, hdz]), hx.cell (by simp [World.cell?, hdz]), (hxz.trans hx).cell u0, (hxz.trans hx).cell u1, hx⟩
          refine' wp_region_sure_all ⟨((some 223, [], none) :: (some 224, [0], none) :: (some 225, [1], none) :: (some 226, [], none) :: (some 227, [], none) :: (some 228, [4, 3], none) :: (some 229, [5], none) :: (some 230, [], none) :: (some 231, [6, 7], none) :: (some 232, [8], none) :: (some 233, [9], none) :: (some 234, [2, 10], none) :: (some 235, [11], none) :: (some 236, [12], some (12, false)) :: (some 237, [13, 12], some (12, false)) :: (some 238, [14, 12], some (12, false)) :: (some 239, [12], some (12, false)) :: (some 240, [12], some (12, false)) :: (some 241, [17, 16, 12], some (12, false)) :: (some 242, [18, 12], some (12, false)) :: (some 243, [12], some (12, false)) :: (some 244, [19, 20, 12], some (12, false)) :: (some 245, [21, 12], some (12, false)) :: (some 246, [22, 12], some (12, false)) :: (some 247, [23, 12], some (12, false)) :: (some 248, [15, 24, 12], some (12, false)) :: (some 249, [12, 25], none) :: (some 250, [26, 12], none) :: (some 251, [27], some (27, false)) :: (some 252, [28, 27], some (27, false)) :: (some 253, [29, 27], some (27, false)) :: (some 254, [27], some (27, false)) :: (some 255, [27], some (27, false)) :: (some 256, [32, 31, 27], some (27, false)) :: (some 257, [33, 27], some (27, false)) :: (some 258, [27], some (27, false)) :: (some 259, [34, 35, 27], some (27, false)) :: (some 260, [36, 27], some (27, false)) :: (some 261, [37, 27], some (27, false)) :: (some 262, [27], some (27, false)) :: (some 263, [39, 27], some (27, false)) :: (some 264, [40, 27], some (27, false)) :: (some 265, [38, 41, 27], some (27, false)) :: (some 266, [42, 27], some (27, false)) :: (some 267, [30, 43, 27], some (27, false)) :: (some 268, [27, 44], none) :: (some 269, [45, 27], none) :: (some 270, [46], some (46, false)) :: (some 271, [47, 46], some (46, false)) :: (some 272, [46], some (46, false)) :: (some 273, [49, 46], some (46, false)) :: (some 274, [50, 46], some (46, false)) :: (some 275, [48, 51, 46], some (46, false)) :: (some 276, [46, 52], none) :: []), (0 :: 1 :: 3 :: 0 :: 0 :: 24 :: 56 :: 0 :: 248 :: 504 :: 1016 :: 2047 :: 4095 :: 8191 :: 16383 :: 32767 :: 8191 :: 8191 :: 204799 :: 466943 :: 8191 :: 2039807 :: 4136959 :: 8331263 :: 16719871 :: 33554431 :: 67108863 :: 134217727 :: 268435455 :: 536870911 :: 1073741823 :: 268435455 :: 268435455 :: 6710886399 :: 15300820991 :: 268435455 :: 66840428543 :: 135559905279 :: 272998858751 :: 268435455 :: 550024249343 :: 1649535877119 :: 4396167462911 :: 8794213974015 :: 17592186044415 :: 35184372088831 :: 70368744177663 :: 140737488355327 :: 281474976710655 :: 140737488355327 :: 703687441776639 :: 1829587348619263 :: 4503599627370495 :: 9007199254740991 :: []), (true :: true :: true :: true :: true :: true :: true :: true :: true :: true :: true :: true :: true :: true :: true :: true :: true :: true :: true :: true :: true :: true :: true :: true :: true :: true :: true :: true :: true :: true :: true :: true :: true :: true :: true :: true :: true :: true :: true :: true :: true :: true :: true :: true :: true :: true :: true :: true :: true :: true :: true :: true :: true :: true :: []), [], 0⟩ 54 318 ((0, 223) :: (1, 224) :: (2, 225) :: (3, 226) :: (4, 227) :: (5, 228) :: (6, 229) :: (7, 230) :: (8, 231) :: (9, 232) :: (10, 233) :: (11, 234) :: (12, 235) :: (13, 236) :: (14, 237) :: (15, 238) :: (16, 239) :: (17, 240) :: (18, 241) :: (19, 242) :: (20, 243) :: (21, 244) :: (22, 245) :: (23, 246) :: (24, 247) :: (25, 248) :: (26, 249) :: (27, 250) :: (28, 251) :: (29, 252) :: (30, 253) :: (31, 254) :: (32, 255) :: (33, 256) :: (34, 257) :: (35, 258) :: (36, 259) :: (37, 260) :: (38, 261) :: (39, 262) :: (40, 263) :: (41, 264) :: (42, 265) :: (43, 266) :: (44, 267) :: (45, 268) :: (46, 269) :: (47, 270) :: (48, 271) :: (49, 272) :: (50, 273) :: (51, 274) :: (52, 275) :: (53, 276) :: []) ((0, 223) :: (1, 224) :: (2, 225) :: (3, 226) :: (4, 227) :: (5, 228) :: (6, 229) :: (7, 230) :: (8, 231) :: (9, 232) :: (10, 233) :: (11, 234) :: (12, 235) :: (13, 236) :: (14, 237) :: (15, 238) :: (16, 239) :: (17, 240) :: (18, 241) :: (19, 242) :: (20, 243) :: (21, 244) :: (22, 245) :: (23, 246) :: (24, 247) :: (25, 248) :: (26, 249) :: (27, 250) :: (28, 251) :: (29, 252) :: (30, 253) :: (31, 254) :: (32, 255) :: (33, 256) :: (34, 257) :: (35, 258) :: (36, 259) :: (37, 260) :: (38, 261) :: (39, 262) :: (40, 263) :: (41, 264) :: (42, 265) :: (43, 266) :: (44, 267) :: (45, 268) :: (46, 269) :: (47, 270) :: (48, 271) :: (49, 272) :: (50, 273) :: (51, 274) :: (52, 275) :: (53, 276) :: []) (.det _ :: .det _ :: .det _ :: .det _ :: .det _ :: .det _ :: .det _ :: .det _ :: .det _ :: .det _ :: .det _ :: .det _ :: .det _ :: .det _ :: .det _ :: .det _ :: .det _ :: .det _ :: .det _ :: .det _ :: .det _ :: .det _ :: .det _ :: .det _ :: .det _ :: .det _ :: .det _ :: .det _ :: .det _ :: .det _ :: .det _ :: .det _ :: .det _ :: .det _ :: .det _ :: .det _ :: .det _ :: .det _ :: .det _ :: .det _ :: .det _ :: .det _ :: .det _ :: .det _ :: .det _ :: .det _ :: .det _ :: .det _ :: .det _ :: .det _ :: .det _ :: .det _ :: .det _ :: .det _ :: []) (by kernel_rfl) (by kernel_rfl) (by kernel_rfl) rfl (by kernel_rfl) (by kernel_rfl) rfl (by kernel_rfl) ?hone ?hend
          case hone =>
           intro CS frS VS hCS ha hV
           have qs3 := slot_val (t := 3) ha rfl
           simp only [List.getElem_toArray, List.getElem_cons_succ, List.getElem_cons_zero] at qs3
           have qs19 := slot_val (t := 19) ha rfl
           simp only [List.getElem_toArray, List.getElem_cons_succ, List.getElem_cons_zero] at qs19
           have qs20 := slot_val (t := 20) ha rfl
           simp only [List.getElem_toArray, List.getElem_cons_succ, List.getElem_cons_zero] at qs20
           have qs21 := slot_val (t := 21) ha rfl
           simp only [List.getElem_toArray, List.getElem_cons_succ, List.getElem_cons_zero] at qs21
           have HCS := Lib.hid hCS
           have HVS := Lib.hid hV
           clear ha hCS hV
           refine sure_det (js := []) (ts := [21]) (gd := none) (place_at HVS.out (k := 0) rfl) (by rw [HCS.out]; kernel_rfl) ?_ ?_
           ·intro wx hx ρ hρ hs hf; have hρc := hρ.const; have hρf := hρ.func
            obtain ⟨fx21, -⟩ := hf; rw [qs21] at fx21
            clear hs
            clear HCS HVS qs3 qs19 qs20 qs21
            refine run_plain ?_
            unfold runs
            go_simp
            exact detK.mk
           refine sure_det (js := [(0, 223)]) (ts := []) (gd := none) (place_at HVS.out (k := 1) rfl) (by rw [HCS.out]; kernel_rfl) ?_ ?_
           ·intro wx hx ρ hρ hs hf; have hρc := hρ.const; have hρf := hρ.func; obtain ⟨sn0, -⟩ := hs; rw [place_at HVS.out (k := 0) rfl] at sn0; replace sn0 : ρ (.tmp 223) = _ := sn0
            clear hf
            clear HCS HVS qs3 qs19 qs20 qs21
            refine run_plain ?_
            obtain ⟨p0, p1, p2, p3, p4, -⟩ := hX wx hx.drawn
            unfold runs
            go_simp
            exact detK.mk
           refine sure_det (js := [(1, 224)]) (ts := []) (gd := none) (place_at HVS.out (k := 2) rfl) (by rw [HCS.out]; kernel_rfl) ?_ ?_
           ·intro wx hx ρ hρ hs hf; have hρc := hρ.const; have hρf := hρ.func; obtain ⟨sn1, -⟩ := hs; rw [place_at HVS.out (k := 1) rfl] at sn1; replace sn1 : ρ (.tmp 224) = _ := sn1
            clear hf
            clear HCS HVS qs3 qs19 qs20 qs21
            refine run_plain ?_
            unfold runs
            go_simp
            exact detK.mk
           refine sure_det (js := []) (ts := [19]) (gd := none) (place_at HVS.out (k := 3) rfl) (by rw [HCS.out]; kernel_rfl) ?_ ?_
           ·intro wx hx ρ hρ hs hf; have hρc := hρ.const; have hρf := hρ.func
            obtain ⟨fx19, -⟩ := hf; rw [qs19] at fx19
            clear hs
            clear HCS HVS qs3 qs19 qs20 qs21
            refine run_plain ?_
            refine op_move rfl fx19 ?_
            exact detK.mk
           refine sure_det (js := []) (ts := [3]) (gd := none) (place_at HVS.out (k := 4) rfl) (by rw [HCS.out]; kernel_rfl) ?_ ?_
           ·intro wx hx ρ hρ hs hf; have hρc := hρ.const; have hρf := hρ.func
            obtain ⟨fx3, -⟩ := hf; rw [qs3] at fx3
            clear hs
            clear HCS HVS qs3 qs19 qs20 qs21
            refine run_plain ?_
            unfold runs
            go_simp
            exact detK.mk
           refine sure_det (js := [(4, 227), (3, 226)]) (ts := []) (gd := none) (place_at HVS.out (k := 5) rfl) (by rw [HCS.out]; kernel_rfl) ?_ ?_
           ·intro wx hx ρ hρ hs hf; have hρc := hρ.const; have hρf := hρ.func; obtain ⟨sn4, sn3, -⟩ := hs; rw [place_at HVS.out (k := 4) rfl] at sn4; replace sn4 : ρ (.tmp 227) = _ := sn4; rw [place_at HVS.out (k := 3) rfl] at sn3; replace sn3 : ρ (.tmp 226) = _ := sn3
            clear hf
            clear HCS HVS qs3 qs19 qs20 qs21
            refine run_plain ?_
            unfold runs
            go_simp
            exact detK.mk
           refine sure_det (js := [(5, 228)]) (ts := []) (gd := none) (place_at HVS.out (k := 6) rfl) (by rw [HCS.out]; kernel_rfl) ?_ ?_
           ·intro wx hx ρ hρ hs hf; have hρc := hρ.const; have hρf := hρ.func; obtain ⟨sn5, -⟩ := hs; rw [place_at HVS.out (k := 5) rfl] at sn5; replace sn5 : ρ (.tmp 228) = _ := sn5
            clear hf
            clear HCS HVS qs3 qs19 qs20 qs21
            refine run_plain ?_
            obtain ⟨p0, p1, p2, p3, p4, -⟩ := hX wx hx.drawn
            unfold runs
            go_simp
            exact detK.mk
           refine sure_det (js := []) (ts := [20]) (gd := none) (place_at HVS.out (k := 7) rfl) (by rw [HCS.out]; kernel_rfl) ?_ ?_
           ·intro wx hx ρ hρ hs hf; have hρc := hρ.const; have hρf := hρ.func
            obtain ⟨fx20, -⟩ := hf; rw [qs20] at fx20
            clear hs
            clear HCS HVS qs3 qs19 qs20 qs21
            refine run_plain ?_
            refine op_move rfl fx20 ?_
            exact detK.mk
           refine sure_det (js := [(6, 229), (7, 230)]) (ts := []) (gd := none) (place_at HVS.out (k := 8) rfl) (by rw [HCS.out]; kernel_rfl) ?_ ?_
           ·intro wx hx ρ hρ hs hf; have hρc := hρ.const; have hρf := hρ.func; obtain ⟨sn6, sn7, -⟩ := hs; rw [place_at HVS.out (k := 6) rfl] at sn6; replace sn6 : ρ (.tmp 229) = _ := sn6; rw [place_at HVS.out (k := 7) rfl] at sn7; replace sn7 : ρ (.tmp 230) = _ := sn7
            clear hf
            clear HCS HVS qs3 qs19 qs20 qs21
            refine run_plain ?_
            unfold runs
            go_simp
            exact detK.mk
           refine sure_det (js := [(8, 231)]) (ts := []) (gd := none) (place_at HVS.out (k := 9) rfl) (by rw [HCS.out]; kernel_rfl) ?_ ?_
           ·intro wx hx ρ hρ hs hf; have hρc := hρ.const; have hρf := hρ.func; obtain ⟨sn8, -⟩ := hs; rw [place_at HVS.out (k := 8) rfl] at sn8; replace sn8 : ρ (.tmp 231) = _ := sn8
            clear hf
            clear HCS HVS qs3 qs19 qs20 qs21
            refine run_plain ?_
            unfold runs
            go_simp
            exact detK.mk
           refine sure_det (js := [(9, 232)]) (ts := []) (gd := none) (place_at HVS.out (k := 10) rfl) (by rw [HCS.out]; kernel_rfl) ?_ ?_
           ·intro wx hx ρ hρ hs hf; have hρc := hρ.const; have hρf := hρ.func; obtain ⟨sn9, -⟩ := hs; rw [place_at HVS.out (k := 9) rfl] at sn9; replace sn9 : ρ (.tmp 232) = _ := sn9
            clear hf
            clear HCS HVS qs3 qs19 qs20 qs21
            refine run_plain ?_
            obtain ⟨p0, p1, p2, p3, p4, -⟩ := hX wx hx.drawn
            unfold runs
            go_simp
            exact detK.mk
           refine sure_det (js := [(2, 225), (10, 233)]) (ts := []) (gd := none) (place_at HVS.out (k := 11) rfl) (by rw [HCS.out]; kernel_rfl) ?_ ?_
           ·intro wx hx ρ hρ hs hf; have hρc := hρ.const; have hρf := hρ.func; obtain ⟨sn2, sn10, -⟩ := hs; rw [place_at HVS.out (k := 2) rfl] at sn2; replace sn2 : ρ (.tmp 225) = _ := sn2; rw [place_at HVS.out (k := 10) rfl] at sn10; replace sn10 : ρ (.tmp 233) = _ := sn10
            clear hf
            clear HCS HVS qs3 qs19 qs20 qs21
            refine run_plain ?_
            unfold runs
            go_simp
            exact detK.mk
           refine sure_det (js := [(11, 234)]) (ts := []) (gd := none) (place_at HVS.out (k := 12) rfl) (by rw [HCS.out]; kernel_rfl) ?_ ?_
           ·intro wx hx ρ hρ hs hf; have hρc := hρ.const; have hρf := hρ.func; obtain ⟨sn11, -⟩ := hs; rw [place_at HVS.out (k := 11) rfl] at sn11; replace sn11 : ρ (.tmp 234) = _ := sn11
            clear hf
            clear HCS HVS qs3 qs19 qs20 qs21
            refine run_plain ?_
            refine op_move rfl sn11 ?_
            exact detK.mk
           refine sure_det (js := [(12, 235)]) (ts := [21]) (gd := (some (235, false))) (place_at HVS.out (k := 13) rfl) (by rw [HCS.out]; kernel_rfl) ?_ ?_
           ·intro wx hx ρ hρ hs hf; have hρc := hρ.const; have hρf := hρ.func; obtain ⟨sn12, -⟩ := hs
            obtain ⟨fx21, -⟩ := hf; rw [qs21] at fx21; rw [place_at HVS.out (k := 12) rfl] at sn12; replace sn12 : ρ (.tmp 235) = _ := sn12
            clear HCS HVS qs3 qs19 qs20 qs21
            first
             | (refine run_passed sn12 ?_; exact detK.mk)
             | (refine run_guarded sn12 ?_; unfold runs; go_simp; exact detK.mk)
           refine sure_det (js := [(13, 236), (12, 235)]) (ts := []) (gd := (some (235, false))) (place_at HVS.out (k := 14) rfl) (by rw [HCS.out]; kernel_rfl) ?_ ?_
           ·intro wx hx ρ hρ hs hf; have hρc := hρ.const; have hρf := hρ.func; obtain ⟨sn13, sn12, -⟩ := hs; rw [place_at HVS.out (k := 13) rfl] at sn13; replace sn13 : ρ (.tmp 236) = _ := sn13; rw [place_at HVS.out (k := 12) rfl] at sn12; replace sn12 : ρ (.tmp 235) = _ := sn12
            clear hf
            clear HCS HVS qs3 qs19 qs20 qs21
            first
             | (refine run_passed sn12 ?_; exact detK.mk)
             | (refine run_guarded sn12 ?_; obtain ⟨p0, p1, p2, p3, p4, -⟩ := hX wx hx.drawn; unfold runs; go_simp; exact detK.mk)
           refine sure_det (js := [(14, 237), (12, 235)]) (ts := []) (gd := (some (235, false))) (place_at HVS.out (k := 15) rfl) (by rw [HCS.out]; kernel_rfl) ?_ ?_
           ·intro wx hx ρ hρ hs hf; have hρc := hρ.const; have hρf := hρ.func; obtain ⟨sn14, sn12, -⟩ := hs; rw [place_at HVS.out (k := 14) rfl] at sn14; replace sn14 : ρ (.tmp 237) = _ := sn14; rw [place_at HVS.out (k := 12) rfl] at sn12; replace sn12 : ρ (.tmp 235) = _ := sn12
            clear hf
            clear HCS HVS qs3 qs19 qs20 qs21
            first
             | (refine run_passed sn12 ?_; exact detK.mk)
             | (refine run_guarded sn12 ?_; unfold runs; go_simp; exact detK.mk)
           refine sure_det (js := [(12, 235)]) (ts := [19]) (gd := (some (235, false))) (place_at HVS.out (k := 16) rfl) (by rw [HCS.out]; kernel_rfl) ?_ ?_
           ·intro wx hx ρ hρ hs hf; have hρc := hρ.const; have hρf := hρ.func; obtain ⟨sn12, -⟩ := hs
            obtain ⟨fx19, -⟩ := hf; rw [qs19] at fx19; rw [place_at HVS.out (k := 12) rfl] at sn12; replace sn12 : ρ (.tmp 235) = _ := sn12
            clear HCS HVS qs3 qs19 qs20 qs21
            first
             | (refine run_passed sn12 ?_; exact detK.mk)
             | (refine run_guarded sn12 ?_; refine op_move rfl fx19 ?_; exact detK.mk)
           refine sure_det (js := [(12, 235)]) (ts := [3]) (gd := (some (235, false))) (place_at HVS.out (k := 17) rfl) (by rw [HCS.out]; kernel_rfl) ?_ ?_
           ·intro wx hx ρ hρ hs hf; have hρc := hρ.const; have hρf := hρ.func; obtain ⟨sn12, -⟩ := hs
            obtain ⟨fx3, -⟩ := hf; rw [qs3] at fx3; rw [place_at HVS.out (k := 12) rfl] at sn12; replace sn12 : ρ (.tmp 235) = _ := sn12
            clear HCS HVS qs3 qs19 qs20 qs21
            first
             | (refine run_passed sn12 ?_; exact detK.mk)
             | (refine run_guarded sn12 ?_; unfold runs; go_simp; exact detK.mk)
           refine sure_det (js := [(17, 240), (16, 239), (12, 235)]) (ts := []) (gd := (some (235, false))) (place_at HVS.out (k := 18) rfl) (by rw [HCS.out]; kernel_rfl) ?_ ?_
           ·intro wx hx ρ hρ hs hf; have hρc := hρ.const; have hρf := hρ.func; obtain ⟨sn17, sn16, sn12, -⟩ := hs; rw [place_at HVS.out (k := 17) rfl] at sn17; replace sn17 : ρ (.tmp 240) = _ := sn17; rw [place_at HVS.out (k := 16) rfl] at sn16; replace sn16 : ρ (.tmp 239) = _ := sn16; rw [place_at HVS.out (k := 12) rfl] at sn12; replace sn12 : ρ (.tmp 235) = _ := sn12
            clear hf
            clear HCS HVS qs3 qs19 qs20 qs21
            first
             | (refine run_passed sn12 ?_; exact detK.mk)
             | (refine run_guarded sn12 ?_; unfold runs; go_simp; exact detK.mk)
           refine sure_det (js := [(18, 241), (12, 235)]) (ts := []) (gd := (some (235, false))) (place_at HVS.out (k := 19) rfl) (by rw [HCS.out]; kernel_rfl) ?_ ?_
           ·intro wx hx ρ hρ hs hf; have hρc := hρ.const; have hρf := hρ.func; obtain ⟨sn18, sn12, -⟩ := hs; rw [place_at HVS.out (k := 18) rfl] at sn18; replace sn18 : ρ (.tmp 241) = _ := sn18; rw [place_at HVS.out (k := 12) rfl] at sn12; replace sn12 : ρ (.tmp 235) = _ := sn12
            clear hf
            clear HCS HVS qs3 qs19 qs20 qs21
            first
             | (refine run_passed sn12 ?_; exact detK.mk)
             | (refine run_guarded sn12 ?_; obtain ⟨p0, p1, p2, p3, p4, -⟩ := hX wx hx.drawn; unfold runs; go_simp; exact detK.mk)
           refine sure_det (js := [(12, 235)]) (ts := [20]) (gd := (some (235, false))) (place_at HVS.out (k := 20) rfl) (by rw [HCS.out]; kernel_rfl) ?_ ?_
           ·intro wx hx ρ hρ hs hf; have hρc := hρ.const; have hρf := hρ.func; obtain ⟨sn12, -⟩ := hs
            obtain ⟨fx20, -⟩ := hf; rw [qs20] at fx20; rw [place_at HVS.out (k := 12) rfl] at sn12; replace sn12 : ρ (.tmp 235) = _ := sn12
            clear HCS HVS qs3 qs19 qs20 qs21
            first
             | (refine run_passed sn12 ?_; exact detK.mk)
             | (refine run_guarded sn12 ?_; refine op_move rfl fx20 ?_; exact detK.mk)
           refine sure_det (js := [(19, 242), (20, 243), (12, 235)]) (ts := []) (gd := (some (235, false))) (place_at HVS.out (k := 21) rfl) (by rw [HCS.out]; kernel_rfl) ?_ ?_
           ·intro wx hx ρ hρ hs hf; have hρc := hρ.const; have hρf := hρ.func; obtain ⟨sn19, sn20, sn12, -⟩ := hs; rw [place_at HVS.out (k := 19) rfl] at sn19; replace sn19 : ρ (.tmp 242) = _ := sn19; rw [place_at HVS.out (k := 20) rfl] at sn20; replace sn20 : ρ (.tmp 243) = _ := sn20; rw [place_at HVS.out (k := 12) rfl] at sn12; replace sn12 : ρ (.tmp 235) = _ := sn12
            clear hf
            clear HCS HVS qs3 qs19 qs20 qs21
            first
             | (refine run_passed sn12 ?_; exact detK.mk)
             | (refine run_guarded sn12 ?_; unfold runs; go_simp; exact detK.mk)
           refine sure_det (js := [(21, 244), (12, 235)]) (ts := []) (gd := (some (235, false))) (place_at HVS.out (k := 22) rfl) (by rw [HCS.out]; kernel_rfl) ?_ ?_
           ·intro wx hx ρ hρ hs hf; have hρc := hρ.const; have hρf := hρ.func; obtain ⟨sn21, sn12, -⟩ := hs; rw [place_at HVS.out (k := 21) rfl] at sn21; replace sn21 : ρ (.tmp 244) = _ := sn21; rw [place_at HVS.out (k := 12) rfl] at sn12; replace sn12 : ρ (.tmp 235) = _ := sn12
            clear hf
            clear HCS HVS qs3 qs19 qs20 qs21
            first
             | (refine run_passed sn12 ?_; exact detK.mk)
             | (refine run_guarded sn12 ?_; unfold runs; go_simp; exact detK.mk)
           refine sure_det (js := [(22, 245), (12, 235)]) (ts := []) (gd := (some (235, false))) (place_at HVS.out (k := 23) rfl) (by rw [HCS.out]; kernel_rfl) ?_ ?_
           ·intro wx hx ρ hρ hs hf; have hρc := hρ.const; have hρf := hρ.func; obtain ⟨sn22, sn12, -⟩ := hs; rw [place_at HVS.out (k := 22) rfl] at sn22; replace sn22 : ρ (.tmp 245) = _ := sn22; rw [place_at HVS.out (k := 12) rfl] at sn12; replace sn12 : ρ (.tmp 235) = _ := sn12
            clear hf
            clear HCS HVS qs3 qs19 qs20 qs21
            first
             | (refine run_passed sn12 ?_; exact detK.mk)
             | (refine run_guarded sn12 ?_; obtain ⟨p0, p1, p2, p3, p4, -⟩ := hX wx hx.drawn; unfold runs; go_simp; exact detK.mk)
           refine sure_det (js := [(23, 246), (12, 235)]) (ts := []) (gd := (some (235, false))) (place_at HVS.out (k := 24) rfl) (by rw [HCS.out]; kernel_rfl) ?_ ?_
           ·intro wx hx ρ hρ hs hf; have hρc := hρ.const; have hρf := hρ.func; obtain ⟨sn23, sn12, -⟩ := hs; rw [place_at HVS.out (k := 23) rfl] at sn23; replace sn23 : ρ (.tmp 246) = _ := sn23; rw [place_at HVS.out (k := 12) rfl] at sn12; replace sn12 : ρ (.tmp 235) = _ := sn12
            clear hf
            clear HCS HVS qs3 qs19 qs20 qs21
            first
             | (refine run_passed sn12 ?_; exact detK.mk)
             | (refine run_guarded sn12 ?_; unfold runs; go_simp; exact detK.mk)
           refine sure_det (js := [(15, 238), (24, 247), (12, 235)]) (ts := []) (gd := (some (235, false))) (place_at HVS.out (k := 25) rfl) (by rw [HCS.out]; kernel_rfl) ?_ ?_
           ·intro wx hx ρ hρ hs hf; have hρc := hρ.const; have hρf := hρ.func; obtain ⟨sn15, sn24, sn12, -⟩ := hs; rw [place_at HVS.out (k := 15) rfl] at sn15; replace sn15 : ρ (.tmp 238) = _ := sn15; rw [place_at HVS.out (k := 24) rfl] at sn24; replace sn24 : ρ (.tmp 247) = _ := sn24; rw [place_at HVS.out (k := 12) rfl] at sn12; replace sn12 : ρ (.tmp 235) = _ := sn12
            clear hf
            clear HCS HVS qs3 qs19 qs20 qs21
            first
             | (refine run_passed sn12 ?_; exact detK.mk)
             | (refine run_guarded sn12 ?_; unfold runs; go_simp; exact detK.mk)
           refine sure_det (js := [(12, 235), (25, 248)]) (ts := []) (gd := none) (place_at HVS.out (k := 26) rfl) (by rw [HCS.out]; kernel_rfl) ?_ ?_
           ·intro wx hx ρ hρ hs hf; have hρc := hρ.const; have hρf := hρ.func; obtain ⟨sn12, sn25, -⟩ := hs; rw [place_at HVS.out (k := 12) rfl] at sn12; replace sn12 : ρ (.tmp 235) = _ := sn12; rw [place_at HVS.out (k := 25) rfl] at sn25; replace sn25 : ρ (.tmp 248) = _ := sn25
            clear hf
            clear HCS HVS qs3 qs19 qs20 qs21
            refine run_plain ?_
            first | refine op_pick_t rfl sn12 (hρ.const _) ?_ | refine op_pick_f rfl sn12 sn25 ?_
            exact detK.mk
           refine sure_det (js := [(26, 249)]) (ts := []) (gd := none) (place_at HVS.out (k := 27) rfl) (by rw [HCS.out]; kernel_rfl) ?_ ?_
           ·intro wx hx ρ hρ hs hf; have hρc := hρ.const; have hρf := hρ.func; obtain ⟨sn26, -⟩ := hs; rw [place_at HVS.out (k := 26) rfl] at sn26; replace sn26 : ρ (.tmp 249) = _ := sn26
            clear hf
            clear HCS HVS qs3 qs19 qs20 qs21
            refine run_plain ?_
            refine op_move rfl sn26 ?_
            exact detK.mk
           refine sure_det (js := [(27, 250)]) (ts := [21]) (gd := (some (250, false))) (place_at HVS.out (k := 28) rfl) (by rw [HCS.out]; kernel_rfl) ?_ ?_
           ·intro wx hx ρ hρ hs hf; have hρc := hρ.const; have hρf := hρ.func; obtain ⟨sn27, -⟩ := hs
            obtain ⟨fx21, -⟩ := hf; rw [qs21] at fx21; rw [place_at HVS.out (k := 27) rfl] at sn27; replace sn27 : ρ (.tmp 250) = _ := sn27
            clear HCS HVS qs3 qs19 qs20 qs21
            first
             | (refine run_passed sn27 ?_; exact detK.mk)
             | (refine run_guarded sn27 ?_; unfold runs; go_simp; exact detK.mk)
           refine sure_det (js := [(28, 251), (27, 250)]) (ts := []) (gd := (some (250, false))) (place_at HVS.out (k := 29) rfl) (by rw [HCS.out]; kernel_rfl) ?_ ?_
           ·intro wx hx ρ hρ hs hf; have hρc := hρ.const; have hρf := hρ.func; obtain ⟨sn28, sn27, -⟩ := hs; rw [place_at HVS.out (k := 28) rfl] at sn28; replace sn28 : ρ (.tmp 251) = _ := sn28; rw [place_at HVS.out (k := 27) rfl] at sn27; replace sn27 : ρ (.tmp 250) = _ := sn27
            clear hf
            clear HCS HVS qs3 qs19 qs20 qs21
            first
             | (refine run_passed sn27 ?_; exact detK.mk)
             | (refine run_guarded sn27 ?_; obtain ⟨p0, p1, p2, p3, p4, -⟩ := hX wx hx.drawn; unfold runs; go_simp; exact detK.mk)
           refine sure_det (js := [(29, 252), (27, 250)]) (ts := []) (gd := (some (250, false))) (place_at HVS.out (k := 30) rfl) (by rw [HCS.out]; kernel_rfl) ?_ ?_
           ·intro wx hx ρ hρ hs hf; have hρc := hρ.const; have hρf := hρ.func; obtain ⟨sn29, sn27, -⟩ := hs; rw [place_at HVS.out (k := 29) rfl] at sn29; replace sn29 : ρ (.tmp 252) = _ := sn29; rw [place_at HVS.out (k := 27) rfl] at sn27; replace sn27 : ρ (.tmp 250) = _ := sn27
            clear hf
            clear HCS HVS qs3 qs19 qs20 qs21
            first
             | (refine run_passed sn27 ?_; exact detK.mk)
             | (refine run_guarded sn27 ?_; have q1 := run_convert_bytesV (P := Try.prog) (BytesV.ext hvz hx.drawn) Try.underlying27 Try.underlying5 Try.underlying9; unfold runs; go_simp; exact detK.mk)
           refine sure_det (js := [(27, 250)]) (ts := [19]) (gd := (some (250, false))) (place_at HVS.out (k := 31) rfl) (by rw [HCS.out]; kernel_rfl) ?_ ?_
           ·intro wx hx ρ hρ hs hf; have hρc := hρ.const; have hρf := hρ.func; obtain ⟨sn27, -⟩ := hs
            obtain ⟨fx19, -⟩ := hf; rw [qs19] at fx19; rw [place_at HVS.out (k := 27) rfl] at sn27; replace sn27 : ρ (.tmp 250) = _ := sn27
            clear HCS HVS qs3 qs19 qs20 qs21
            first
             | (refine run_passed sn27 ?_; exact detK.mk)
             | (refine run_guarded sn27 ?_; refine op_move rfl fx19 ?_; exact detK.mk)
           refine sure_det (js := [(27, 250)]) (ts := [3]) (gd := (some (250, false))) (place_at HVS.out (k := 32) rfl) (by rw [HCS.out]; kernel_rfl) ?_ ?_
           ·intro wx hx ρ hρ hs hf; have hρc := hρ.const; have hρf := hρ.func; obtain ⟨sn27, -⟩ := hs
            obtain ⟨fx3, -⟩ := hf; rw [qs3] at fx3; rw [place_at HVS.out (k := 27) rfl] at sn27; replace sn27 : ρ (.tmp 250) = _ := sn27
            clear HCS HVS qs3 qs19 qs20 qs21
            first
             | (refine run_passed sn27 ?_; exact detK.mk)
             | (refine run_guarded sn27 ?_; unfold runs; go_simp; exact detK.mk)
           refine sure_det (js := [(32, 255), (31, 254), (27, 250)]) (ts := []) (gd := (some (250, false))) (place_at HVS.out (k := 33) rfl) (by rw [HCS.out]; kernel_rfl) ?_ ?_
           ·intro wx hx ρ hρ hs hf; have hρc := hρ.const; have hρf := hρ.func; obtain ⟨sn32, sn31, sn27, -⟩ := hs; rw [place_at HVS.out (k := 32) rfl] at sn32; replace sn32 : ρ (.tmp 255) = _ := sn32; rw [place_at HVS.out (k := 31) rfl] at sn31; replace sn31 : ρ (.tmp 254) = _ := sn31; rw [place_at HVS.out (k := 27) rfl] at sn27; replace sn27 : ρ (.tmp 250) = _ := sn27
            clear hf
            clear HCS HVS qs3 qs19 qs20 qs21
            first
             | (refine run_passed sn27 ?_; exact detK.mk)
             | (refine run_guarded sn27 ?_; unfold runs; go_simp; exact detK.mk)
           refine sure_det (js := [(33, 256), (27, 250)]) (ts := []) (gd := (some (250, false))) (place_at HVS.out (k := 34) rfl) (by rw [HCS.out]; kernel_rfl) ?_ ?_
           ·intro wx hx ρ hρ hs hf; have hρc := hρ.const; have hρf := hρ.func; obtain ⟨sn33, sn27, -⟩ := hs; rw [place_at HVS.out (k := 33) rfl] at sn33; replace sn33 : ρ (.tmp 256) = _ := sn33; rw [place_at HVS.out (k := 27) rfl] at sn27; replace sn27 : ρ (.tmp 250) = _ := sn27
            clear hf
            clear HCS HVS qs3 qs19 qs20 qs21
            first
             | (refine run_passed sn27 ?_; exact detK.mk)
             | (refine run_guarded sn27 ?_; obtain ⟨p0, p1, p2, p3, p4, -⟩ := hX wx hx.drawn; unfold runs; go_simp; exact detK.mk)
           refine sure_det (js := [(27, 250)]) (ts := [20]) (gd := (some (250, false))) (place_at HVS.out (k := 35) rfl) (by rw [HCS.out]; kernel_rfl) ?_ ?_
           ·intro wx hx ρ hρ hs hf; have hρc := hρ.const; have hρf := hρ.func; obtain ⟨sn27, -⟩ := hs
            obtain ⟨fx20, -⟩ := hf; rw [qs20] at fx20; rw [place_at HVS.out (k := 27) rfl] at sn27; replace sn27 : ρ (.tmp 250) = _ := sn27
            clear HCS HVS qs3 qs19 qs20 qs21
            first
             | (refine run_passed sn27 ?_; exact detK.mk)
             | (refine run_guarded sn27 ?_; refine op_move rfl fx20 ?_; exact detK.mk)
           refine sure_det (js := [(34, 257), (35, 258), (27, 250)]) (ts := []) (gd := (some (250, false))) (place_at HVS.out (k := 36) rfl) (by rw [HCS.out]; kernel_rfl) ?_ ?_
           ·intro wx hx ρ hρ hs hf; have hρc := hρ.const; have hρf := hρ.func; obtain ⟨sn34, sn35, sn27, -⟩ := hs; rw [place_at HVS.out (k := 34) rfl] at sn34; replace sn34 : ρ (.tmp 257) = _ := sn34; rw [place_at HVS.out (k := 35) rfl] at sn35; replace sn35 : ρ (.tmp 258) = _ := sn35; rw [place_at HVS.out (k := 27) rfl] at sn27; replace sn27 : ρ (.tmp 250) = _ := sn27
            clear hf
            clear HCS HVS qs3 qs19 qs20 qs21
            first
             | (refine run_passed sn27 ?_; exact detK.mk)
             | (refine run_guarded sn27 ?_; unfold runs; go_simp; exact detK.mk)
           refine sure_det (js := [(36, 259), (27, 250)]) (ts := []) (gd := (some (250, false))) (place_at HVS.out (k := 37) rfl) (by rw [HCS.out]; kernel_rfl) ?_ ?_
           ·intro wx hx ρ hρ hs hf; have hρc := hρ.const; have hρf := hρ.func; obtain ⟨sn36, sn27, -⟩ := hs; rw [place_at HVS.out (k := 36) rfl] at sn36; replace sn36 : ρ (.tmp 259) = _ := sn36; rw [place_at HVS.out (k := 27) rfl] at sn27; replace sn27 : ρ (.tmp 250) = _ := sn27
            clear hf
            clear HCS HVS qs3 qs19 qs20 qs21
            first
             | (refine run_passed sn27 ?_; exact detK.mk)
             | (refine run_guarded sn27 ?_; unfold runs; go_simp; exact detK.mk)
           refine sure_det (js := [(37, 260), (27, 250)]) (ts := []) (gd := (some (250, false))) (place_at HVS.out (k := 38) rfl) (by rw [HCS.out]; kernel_rfl) ?_ ?_
           ·intro wx hx ρ hρ hs hf; have hρc := hρ.const; have hρf := hρ.func; obtain ⟨sn37, sn27, -⟩ := hs; rw [place_at HVS.out (k := 37) rfl] at sn37; replace sn37 : ρ (.tmp 260) = _ := sn37; rw [place_at HVS.out (k := 27) rfl] at sn27; replace sn27 : ρ (.tmp 250) = _ := sn27
            clear hf
            clear HCS HVS qs3 qs19 qs20 qs21
            first
             | (refine run_passed sn27 ?_; exact detK.mk)
             | (refine run_guarded sn27 ?_; obtain ⟨p0, p1, p2, p3, p4, -⟩ := hX wx hx.drawn; unfold runs; go_simp; exact detK.mk)
           refine sure_det (js := [(27, 250)]) (ts := [21]) (gd := (some (250, false))) (place_at HVS.out (k := 39) rfl) (by rw [HCS.out]; kernel_rfl) ?_ ?_
           ·intro wx hx ρ hρ hs hf; have hρc := hρ.const; have hρf := hρ.func; obtain ⟨sn27, -⟩ := hs
            obtain ⟨fx21, -⟩ := hf; rw [qs21] at fx21; rw [place_at HVS.out (k := 27) rfl] at sn27; replace sn27 : ρ (.tmp 250) = _ := sn27
            clear HCS HVS qs3 qs19 qs20 qs21
            first
             | (refine run_passed sn27 ?_; exact detK.mk)
             | (refine run_guarded sn27 ?_; unfold runs; go_simp; exact detK.mk)
           refine sure_det (js := [(39, 262), (27, 250)]) (ts := []) (gd := (some (250, false))) (place_at HVS.out (k := 40) rfl) (by rw [HCS.out]; kernel_rfl) ?_ ?_
           ·intro wx hx ρ hρ hs hf; have hρc := hρ.const; have hρf := hρ.func; obtain ⟨sn39, sn27, -⟩ := hs; rw [place_at HVS.out (k := 39) rfl] at sn39; replace sn39 : ρ (.tmp 262) = _ := sn39; rw [place_at HVS.out (k := 27) rfl] at sn27; replace sn27 : ρ (.tmp 250) = _ := sn27
            clear hf
            clear HCS HVS qs3 qs19 qs20 qs21
            first
             | (refine run_passed sn27 ?_; exact detK.mk)
             | (refine run_guarded sn27 ?_; obtain ⟨p0, p1, p2, p3, p4, -⟩ := hX wx hx.drawn; unfold runs; go_simp; exact detK.mk)
           refine sure_det (js := [(40, 263), (27, 250)]) (ts := []) (gd := (some (250, false))) (place_at HVS.out (k := 41) rfl) (by rw [HCS.out]; kernel_rfl) ?_ ?_
           ·intro wx hx ρ hρ hs hf; have hρc := hρ.const; have hρf := hρ.func; obtain ⟨sn40, sn27, -⟩ := hs; rw [place_at HVS.out (k := 40) rfl] at sn40; replace sn40 : ρ (.tmp 263) = _ := sn40; rw [place_at HVS.out (k := 27) rfl] at sn27; replace sn27 : ρ (.tmp 250) = _ := sn27
            clear hf
            clear HCS HVS qs3 qs19 qs20 qs21
            first
             | (refine run_passed sn27 ?_; exact detK.mk)
             | (refine run_guarded sn27 ?_; unfold runs; go_simp; exact detK.mk)
           refine sure_det (js := [(38, 261), (41, 264), (27, 250)]) (ts := []) (gd := (some (250, false))) (place_at HVS.out (k := 42) rfl) (by rw [HCS.out]; kernel_rfl) ?_ ?_
           ·intro wx hx ρ hρ hs hf; have hρc := hρ.const; have hρf := hρ.func; obtain ⟨sn38, sn41, sn27, -⟩ := hs; rw [place_at HVS.out (k := 38) rfl] at sn38; replace sn38 : ρ (.tmp 261) = _ := sn38; rw [place_at HVS.out (k := 41) rfl] at sn41; replace sn41 : ρ (.tmp 264) = _ := sn41; rw [place_at HVS.out (k := 27) rfl] at sn27; replace sn27 : ρ (.tmp 250) = _ := sn27
            clear hf
            clear HCS HVS qs3 qs19 qs20 qs21
            first
             | (refine run_passed sn27 ?_; exact detK.mk)
             | (refine run_guarded sn27 ?_; unfold runs; go_simp; exact detK.mk)
           refine sure_det (js := [(42, 265), (27, 250)]) (ts := []) (gd := (some (250, false))) (place_at HVS.out (k := 43) rfl) (by rw [HCS.out]; kernel_rfl) ?_ ?_
           ·intro wx hx ρ hρ hs hf; have hρc := hρ.const; have hρf := hρ.func; obtain ⟨sn42, sn27, -⟩ := hs; rw [place_at HVS.out (k := 42) rfl] at sn42; replace sn42 : ρ (.tmp 265) = _ := sn42; rw [place_at HVS.out (k := 27) rfl] at sn27; replace sn27 : ρ (.tmp 250) = _ := sn27
            clear hf
            clear HCS HVS qs3 qs19 qs20 qs21
            first
             | (refine run_passed sn27 ?_; exact detK.mk)
             | (refine run_guarded sn27 ?_; have q1 := run_convert_bytesV (P := Try.prog) (hbu.ext hx.drawn) Try.underlying27 Try.underlying5 Try.underlying9; unfold runs; go_simp; exact detK.mk)
           refine sure_det (js := [(30, 253), (43, 266), (27, 250)]) (ts := []) (gd := (some (250, false))) (place_at HVS.out (k := 44) rfl) (by rw [HCS.out]; kernel_rfl) ?_ ?_
           ·intro wx hx ρ hρ hs hf; have hρc := hρ.const; have hρf := hρ.func; obtain ⟨sn30, sn43, sn27, -⟩ := hs; rw [place_at HVS.out (k := 30) rfl] at sn30; replace sn30 : ρ (.tmp 253) = _ := sn30; rw [place_at HVS.out (k := 43) rfl] at sn43; replace sn43 : ρ (.tmp 266) = _ := sn43; rw [place_at HVS.out (k := 27) rfl] at sn27; replace sn27 : ρ (.tmp 250) = _ := sn27
            clear hf
            clear HCS HVS qs3 qs19 qs20 qs21
            first
             | (refine run_passed sn27 ?_; exact detK.mk)
             | (refine run_guarded sn27 ?_; unfold runs; go_simp; exact detK.mk)
           refine sure_det (js := [(27, 250), (44, 267)]) (ts := []) (gd := none) (place_at HVS.out (k := 45) rfl) (by rw [HCS.out]; kernel_rfl) ?_ ?_
           ·intro wx hx ρ hρ hs hf; have hρc := hρ.const; have hρf := hρ.func; obtain ⟨sn27, sn44, -⟩ := hs; rw [place_at HVS.out (k := 27) rfl] at sn27; replace sn27 : ρ (.tmp 250) = _ := sn27; rw [place_at HVS.out (k := 44) rfl] at sn44; replace sn44 : ρ (.tmp 267) = _ := sn44
            clear hf
            clear HCS HVS qs3 qs19 qs20 qs21
            refine run_plain ?_
            first | refine op_pick_t rfl sn27 (hρ.const _) ?_ | refine op_pick_f rfl sn27 sn44 ?_
            exact detK.mk
           refine sure_det (js := [(45, 268)]) (ts := []) (gd := none) (place_at HVS.out (k := 46) rfl) (by rw [HCS.out]; kernel_rfl) ?_ ?_
           ·intro wx hx ρ hρ hs hf; have hρc := hρ.const; have hρf := hρ.func; obtain ⟨sn45, -⟩ := hs; rw [place_at HVS.out (k := 45) rfl] at sn45; replace sn45 : ρ (.tmp 268) = _ := sn45
            clear hf
            clear HCS HVS qs3 qs19 qs20 qs21
            refine run_plain ?_
            refine op_move rfl sn45 ?_
            exact detK.mk
           refine sure_det (js := [(46, 269)]) (ts := [21]) (gd := (some (269, false))) (place_at HVS.out (k := 47) rfl) (by rw [HCS.out]; kernel_rfl) ?_ ?_
           ·intro wx hx ρ hρ hs hf; have hρc := hρ.const; have hρf := hρ.func; obtain ⟨sn46, -⟩ := hs
            obtain ⟨fx21, -⟩ := hf; rw [qs21] at fx21; rw [place_at HVS.out (k := 46) rfl] at sn46; replace sn46 : ρ (.tmp 269) = _ := sn46
            clear HCS HVS qs3 qs19 qs20 qs21
            first
             | (refine run_passed sn46 ?_; exact detK.mk)
             | (refine run_guarded sn46 ?_; unfold runs; go_simp; exact detK.mk)
           refine sure_det (js := [(47, 270), (46, 269)]) (ts := []) (gd := (some (269, false))) (place_at HVS.out (k := 48) rfl) (by rw [HCS.out]; kernel_rfl) ?_ ?_
           ·intro wx hx ρ hρ hs hf; have hρc := hρ.const; have hρf := hρ.func; obtain ⟨sn47, sn46, -⟩ := hs; rw [place_at HVS.out (k := 47) rfl] at sn47; replace sn47 : ρ (.tmp 270) = _ := sn47; rw [place_at HVS.out (k := 46) rfl] at sn46; replace sn46 : ρ (.tmp 269) = _ := sn46
            clear hf
            clear HCS HVS qs3 qs19 qs20 qs21
            first
             | (refine run_passed sn46 ?_; exact detK.mk)
             | (refine run_guarded sn46 ?_; obtain ⟨p0, p1, p2, p3, p4, -⟩ := hX wx hx.drawn; unfold runs; go_simp; exact detK.mk)
           refine sure_det (js := [(46, 269)]) (ts := [21]) (gd := (some (269, false))) (place_at HVS.out (k := 49) rfl) (by rw [HCS.out]; kernel_rfl) ?_ ?_
           ·intro wx hx ρ hρ hs hf; have hρc := hρ.const; have hρf := hρ.func; obtain ⟨sn46, -⟩ := hs
            obtain ⟨fx21, -⟩ := hf; rw [qs21] at fx21; rw [place_at HVS.out (k := 46) rfl] at sn46; replace sn46 : ρ (.tmp 269) = _ := sn46
            clear HCS HVS qs3 qs19 qs20 qs21
            first
             | (refine run_passed sn46 ?_; exact detK.mk)
             | (refine run_guarded sn46 ?_; unfold runs; go_simp; exact detK.mk)
           refine sure_det (js := [(49, 272), (46, 269)]) (ts := []) (gd := (some (269, false))) (place_at HVS.out (k := 50) rfl) (by rw [HCS.out]; kernel_rfl) ?_ ?_
           ·intro wx hx ρ hρ hs hf; have hρc := hρ.const; have hρf := hρ.func; obtain ⟨sn49, sn46, -⟩ := hs; rw [place_at HVS.out (k := 49) rfl] at sn49; replace sn49 : ρ (.tmp 272) = _ := sn49; rw [place_at HVS.out (k := 46) rfl] at sn46; replace sn46 : ρ (.tmp 269) = _ := sn46
            clear hf
            clear HCS HVS qs3 qs19 qs20 qs21
            first
             | (refine run_passed sn46 ?_; exact detK.mk)
             | (refine run_guarded sn46 ?_; obtain ⟨p0, p1, p2, p3, p4, -⟩ := hX wx hx.drawn; unfold runs; go_simp; exact detK.mk)
           refine sure_det (js := [(50, 273), (46, 269)]) (ts := []) (gd := (some (269, false))) (place_at HVS.out (k := 51) rfl) (by rw [HCS.out]; kernel_rfl) ?_ ?_
           ·intro wx hx ρ hρ hs hf; have hρc := hρ.const; have hρf := hρ.func; obtain ⟨sn50, sn46, -⟩ := hs; rw [place_at HVS.out (k := 50) rfl] at sn50; replace sn50 : ρ (.tmp 273) = _ := sn50; rw [place_at HVS.out (k := 46) rfl] at sn46; replace sn46 : ρ (.tmp 269) = _ := sn46
            clear hf
            clear HCS HVS qs3 qs19 qs20 qs21
            first
             | (refine run_passed sn46 ?_; exact detK.mk)
             | (refine run_guarded sn46 ?_; unfold runs; go_simp; exact detK.mk)
           refine sure_det (js := [(48, 271), (51, 274), (46, 269)]) (ts := []) (gd := (some (269, false))) (place_at HVS.out (k := 52) rfl) (by rw [HCS.out]; kernel_rfl) ?_ ?_
           ·intro wx hx ρ hρ hs hf; have hρc := hρ.const; have hρf := hρ.func; obtain ⟨sn48, sn51, sn46, -⟩ := hs; rw [place_at HVS.out (k := 48) rfl] at sn48; replace sn48 : ρ (.tmp 271) = _ := sn48; rw [place_at HVS.out (k := 51) rfl] at sn51; replace sn51 : ρ (.tmp 274) = _ := sn51; rw [place_at HVS.out (k := 46) rfl] at sn46; replace sn46 : ρ (.tmp 269) = _ := sn46
            clear hf
            clear HCS HVS qs3 qs19 qs20 qs21
            first
             | (refine run_passed sn46 ?_; exact detK.mk)
             | (refine run_guarded sn46 ?_; unfold runs; go_simp; exact detK.mk)
           refine sure_det (js := [(46, 269), (52, 275)]) (ts := []) (gd := none) (place_at HVS.out (k := 53) rfl) (by rw [HCS.out]; kernel_rfl) ?_ ?_
           ·intro wx hx ρ hρ hs hf; have hρc := hρ.const; have hρf := hρ.func; obtain ⟨sn46, sn52, -⟩ := hs; rw [place_at HVS.out (k := 46) rfl] at sn46; replace sn46 : ρ (.tmp 269) = _ := sn46; rw [place_at HVS.out (k := 52) rfl] at sn52; replace sn52 : ρ (.tmp 275) = _ := sn52
            clear hf
            clear HCS HVS qs3 qs19 qs20 qs21
            refine run_plain ?_
            first | refine op_pick_t rfl sn46 (hρ.const _) ?_ | refine op_pick_f rfl sn46 sn52 ?_
            exact detK.mk
           exact trivial
          case hend =>
           intro xs wx hx hg
           have gk0 : xs 0 = _ := goods_get hg (i := 0) (j := 0) (d := 223) rfl
           have gk1 : xs 1 = _ := goods_get hg (i := 1) (j := 1) (d := 224) rfl
           have gk2 : xs 2 = _ := goods_get hg (i := 2) (j := 2) (d := 225) rfl
           have gk3 : xs 3 = _ := goods_get hg (i := 3) (j := 3) (d := 226) rfl
           have gk4 : xs 4 = _ := goods_get hg (i := 4) (j := 4) (d := 227) rfl
           have gk5 : xs 5 = _ := goods_get hg (i := 5) (j := 5) (d := 228) rfl
           have gk6 : xs 6 = _ := goods_get hg (i := 6) (j := 6) (d := 229) rfl
           have gk7 : xs 7 = _ := goods_get hg (i := 7) (j := 7) (d := 230) rfl
           have gk8 : xs 8 = _ := goods_get hg (i := 8) (j := 8) (d := 231) rfl
           have gk9 : xs 9 = _ := goods_get hg (i := 9) (j := 9) (d := 232) rfl
           have gk10 : xs 10 = _ := goods_get hg (i := 10) (j := 10) (d := 233) rfl
           have gk11 : xs 11 = _ := goods_get hg (i := 11) (j := 11) (d := 234) rfl
           have gk12 : xs 12 = _ := goods_get hg (i := 12) (j := 12) (d := 235) rfl
           have gk13 : xs 13 = _ := goods_get hg (i := 13) (j := 13) (d := 236) rfl
           have gk14 : xs 14 = _ := goods_get hg (i := 14) (j := 14) (d := 237) rfl
           have gk15 : xs 15 = _ := goods_get hg (i := 15) (j := 15) (d := 238) rfl
           have gk16 : xs 16 = _ := goods_get hg (i := 16) (j := 16) (d := 239) rfl
           have gk17 : xs 17 = _ := goods_get hg (i := 17) (j := 17) (d := 240) rfl
           have gk18 : xs 18 = _ := goods_get hg (i := 18) (j := 18) (d := 241) rfl
           have gk19 : xs 19 = _ := goods_get hg (i := 19) (j := 19) (d := 242) rfl
           have gk20 : xs 20 = _ := goods_get hg (i := 20) (j := 20) (d := 243) rfl
           have gk21 : xs 21 = _ := goods_get hg (i := 21) (j := 21) (d := 244) rfl
           have gk22 : xs 22 = _ := goods_get hg (i := 22) (j := 22) (d := 245) rfl
           have gk23 : xs 23 = _ := goods_get hg (i := 23) (j := 23) (d := 246) rfl
           have gk24 : xs 24 = _ := goods_get hg (i := 24) (j := 24) (d := 247) rfl
           have gk25 : xs 25 = _ := goods_get hg (i := 25) (j := 25) (d := 248) rfl
           have gk26 : xs 26 = _ := goods_get hg (i := 26) (j := 26) (d := 249) rfl
           have gk27 : xs 27 = _ := goods_get hg (i := 27) (j := 27) (d := 250) rfl
           have gk28 : xs 28 = _ := goods_get hg (i := 28) (j := 28) (d := 251) rfl
           have gk29 : xs 29 = _ := goods_get hg (i := 29) (j := 29) (d := 252) rfl
           have gk30 : xs 30 = _ := goods_get hg (i := 30) (j := 30) (d := 253) rfl
           have gk31 : xs 31 = _ := goods_get hg (i := 31) (j := 31) (d := 254) rfl
           have gk32 : xs 32 = _ := goods_get hg (i := 32) (j := 32) (d := 255) rfl
           have gk33 : xs 33 = _ := goods_get hg (i := 33) (j := 33) (d := 256) rfl
           have gk34 : xs 34 = _ := goods_get hg (i := 34) (j := 34) (d := 257) rfl
           have gk35 : xs 35 = _ := goods_get hg (i := 35) (j := 35) (d := 258) rfl
           have gk36 : xs 36 = _ := goods_get hg (i := 36) (j := 36) (d := 259) rfl
           have gk37 : xs 37 = _ := goods_get hg (i := 37) (j := 37) (d := 260) rfl
           have gk38 : xs 38 = _ := goods_get hg (i := 38) (j := 38) (d := 261) rfl
           have gk39 : xs 39 = _ := goods_get hg (i := 39) (j := 39) (d := 262) rfl
           have gk40 : xs 40 = _ := goods_get hg (i := 40) (j := 40) (d := 263) rfl
           have gk41 : xs 41 = _ := goods_get hg (i := 41) (j := 41) (d := 264) rfl
           have gk42 : xs 42 = _ := goods_get hg (i := 42) (j := 42) (d := 265) rfl
           have gk43 : xs 43 = _ := goods_get hg (i := 43) (j := 43) (d := 266) rfl
           have gk44 : xs 44 = _ := goods_get hg (i := 44) (j := 44) (d := 267) rfl
           have gk45 : xs 45 = _ := goods_get hg (i := 45) (j := 45) (d := 268) rfl
           have gk46 : xs 46 = _ := goods_get hg (i := 46) (j := 46) (d := 269) rfl
           have gk47 : xs 47 = _ := goods_get hg (i := 47) (j := 47) (d := 270) rfl
           have gk48 : xs 48 = _ := goods_get hg (i := 48) (j := 48) (d := 271) rfl
           have gk49 : xs 49 = _ := goods_get hg (i := 49) (j := 49) (d := 272) rfl
           have gk50 : xs 50 = _ := goods_get hg (i := 50) (j := 50) (d := 273) rfl
           have gk51 : xs 51 = _ := goods_get hg (i := 51) (j := 51) (d := 274) rfl
           have gk52 : xs 52 = _ := goods_get hg (i := 52) (j := 52) (d := 275) rfl
           have gk53 : xs 53 = _ := goods_get hg (i := 53) (j := 53) (d := 276) rfl
           clear hg
           simp only [putAll, gk0, gk1, gk2, gk3, gk4, gk5, gk6, gk7, gk8, gk9, gk10, gk11, gk12, gk13, gk14, gk15, gk16, gk17, gk18, gk19, gk20, gk21, gk22, gk23, gk24, gk25, gk26, gk27, gk28, gk29, gk30, gk31, gk32, gk33, gk34, gk35, gk36, gk37, gk38, gk39, gk40, gk41, gk42, gk43, gk44, gk45, gk46, gk47, gk48, gk49, gk50, gk51, gk52, gk53]
           clear gk0 gk1 gk2 gk3 gk4 gk5 gk6 gk7 gk8 gk9 gk10 gk11 gk12 gk13 gk14 gk15 gk16 gk17 gk18 gk19 gk20 gk21 gk22 gk23 gk24 gk25 gk26 gk27 gk28 gk29 gk30 gk31 gk32 gk33 gk34 gk35 gk36 gk37 gk38 gk39 gk40 gk41 gk42 gk43 gk44 gk45 gk46 gk47 gk48 gk49 gk50 gk51 gk52 gk53
           clear xs
           simp only [Act.put, List.setIfInBounds_toArray, List.set_cons_zero, List.set_cons_succ]
           go_wp2
           go_roundw
           case rel => exact ⟨j + 1, by omega, by go_num, hxz.trans hx.drawn⟩
           case measure => simp [intOf]; omega
        ·have hjk' : ¬ (j : Int) = (k : Int) := by omega
         have hjb : ((j : Int) != (k : Int)) = true := by simp only [bne_iff_ne, ne_eq]; exact hjk'
         obtain ⟨aY, rfl, y0, y1, -⟩ := hY0.at (j := j) (s := u) (by rw [List.getElem?_set_ne (fun e => hjk e.symm)]; exact hsx)
         have hX : ∀ wx, Ext wr wx → wx.cell? ⟨ga, 1, none⟩ = some (.slice (some aA) n1 c0) ∧ wx.cell? ⟨gq, 1, none⟩ = some (.slice (some aY) n1 cy) ∧ wx.cell? (aA.add (j * 2)) = some (.slice u.D u.q u.cd) ∧ wx.cell? ⟨(aA.add (j * 2)).block, (aA.add (j * 2)).off + 1, none⟩ = some (.int .i64 u.k) ∧ wx.cell? (aY.add (j * 2)) = some (.slice u.D u.q u.cd) ∧ wx.cell? ⟨(aY.add (j * 2)).block, (aY.add (j * 2)).off + 1, none⟩ = some (.int .i64 u.k) ∧ Ext Wb wx := fun wx hx =>
          ⟨(hxr.trans hx).cell (by simp [World.cell?, hda]), (hxr.trans hx).cell (by simp [World.cell?, hdq]), (hxr.trans hx).cell u0, (hxr.trans hx).cell u1, (hxr.trans hx).cell y0, (hxr.trans hx).cell y1, hxr.trans hx⟩
         have hsame := fun wx (h : Ext Wb wx) => same_yes u.D u.D u.q u.cd u.cd u.k u.d wx (StOK.ext uok h) (StOK.ext uok h)
         go_upto_region 26 with (fail)
         refine' wp_region_sure_all ⟨((some 190, [], none) :: (some 191, [], none) :: (some 192, [0, 1], none) :: (some 193, [2], none) :: (some 194, [3], some (3, false)) :: (some 195, [3], some (3, false)) :: (some 196, [4, 5, 3], some (3, false)) :: (some 197, [3, 6], none) :: (some 198, [7, 3], none) :: (some 199, [8], some (8, true)) :: (some 200, [8], some (8, true)) :: (some 201, [10, 9, 8], some (8, true)) :: (some 202, [11, 8], some (8, true)) :: (some 203, [8], some (8, true)) :: (some 204, [12, 13, 8], some (8, true)) :: (some 205, [14, 8], some (8, true)) :: (some 206, [8], some (8, true)) :: (some 207, [8], some (8, true)) :: (some 208, [17, 16, 8], some (8, true)) :: (some 209, [18, 8], some (8, true)) :: (some 210, [8], some (8, true)) :: (some 211, [19, 20, 8], some (8, true)) :: (some 212, [21, 8], some (8, true)) :: (some 213, [15, 22, 8, 8], some (8, true)) :: (some 214, [23, 8], some (8, true)) :: (some 215, [8, 24], none) :: []), (0 :: 0 :: 3 :: 7 :: 15 :: 15 :: 63 :: 127 :: 255 :: 511 :: 511 :: 2047 :: 4095 :: 511 :: 16383 :: 32767 :: 511 :: 511 :: 197119 :: 459263 :: 511 :: 2032127 :: 4129279 :: 8388607 :: 16777215 :: 33554431 :: []), (true :: true :: true :: true :: true :: true :: true :: true :: true :: true :: true :: true :: true :: true :: true :: true :: true :: true :: true :: true :: true :: true :: true :: true :: true :: true :: []), [], 0⟩ 26 318 ((0, 190) :: (1, 191) :: (2, 192) :: (3, 193) :: (4, 194) :: (5, 195) :: (6, 196) :: (7, 197) :: (8, 198) :: (9, 199) :: (10, 200) :: (11, 201) :: (12, 202) :: (13, 203) :: (14, 204) :: (15, 205) :: (16, 206) :: (17, 207) :: (18, 208) :: (19, 209) :: (20, 210) :: (21, 211) :: (22, 212) :: (23, 213) :: (24, 214) :: (25, 215) :: []) ((0, 190) :: (1, 191) :: (2, 192) :: (3, 193) :: (4, 194) :: (5, 195) :: (6, 196) :: (7, 197) :: (8, 198) :: (9, 199) :: (10, 200) :: (11, 201) :: (12, 202) :: (13, 203) :: (14, 204) :: (15, 205) :: (16, 206) :: (17, 207) :: (18, 208) :: (19, 209) :: (20, 210) :: (21, 211) :: (22, 212) :: (23, 213) :: (24, 214) :: (25, 215) :: []) (.det _ :: .det _ :: .det _ :: .det _ :: .det _ :: .det _ :: .det _ :: .det _ :: .det _ :: .det _ :: .det _ :: .det _ :: .det _ :: .det _ :: .det _ :: .det _ :: .det _ :: .det _ :: .det _ :: .det _ :: .det _ :: .det _ :: .det _ :: .det _ :: .det _ :: .det _ :: []) (by kernel_rfl) (by kernel_rfl) (by kernel_rfl) rfl (by kernel_rfl) (by kernel_rfl) rfl (by kernel_rfl) ?hone ?hend
         case hone =>
          intro CS frS VS hCS ha hV
          have qs3 := slot_val (t := 3) ha rfl
          simp only [List.getElem_toArray, List.getElem_cons_succ, List.getElem_cons_zero] at qs3
          have qs10 := slot_val (t := 10) ha rfl
          simp only [List.getElem_toArray, List.getElem_cons_succ, List.getElem_cons_zero] at qs10
          have qs11 := slot_val (t := 11) ha rfl
          simp only [List.getElem_toArray, List.getElem_cons_succ, List.getElem_cons_zero] at qs11
          have qs14 := slot_val (t := 14) ha rfl
          simp only [List.getElem_toArray, List.getElem_cons_succ, List.getElem_cons_zero] at qs14
          have qs19 := slot_val (t := 19) ha rfl
          simp only [List.getElem_toArray, List.getElem_cons_succ, List.getElem_cons_zero] at qs19
          have qs20 := slot_val (t := 20) ha rfl
          simp only [List.getElem_toArray, List.getElem_cons_succ, List.getElem_cons_zero] at qs20
          have HCS := Lib.hid hCS
          have HVS := Lib.hid hV
          clear ha hCS hV
          refine sure_det (js := []) (ts := [19]) (gd := none) (place_at HVS.out (k := 0) rfl) (by rw [HCS.out]; kernel_rfl) ?_ ?_
          ·intro wx hx ρ hρ hs hf; have hρc := hρ.const; have hρf := hρ.func
           obtain ⟨fx19, -⟩ := hf; rw [qs19] at fx19
           clear hs
           clear HCS HVS qs3 qs10 qs11 qs14 qs19 qs20
           refine run_plain ?_
           refine op_move rfl fx19 ?_
           exact detK.mk
          refine sure_det (js := []) (ts := [10]) (gd := none) (place_at HVS.out (k := 1) rfl) (by rw [HCS.out]; kernel_rfl) ?_ ?_
          ·intro wx hx ρ hρ hs hf; have hρc := hρ.const; have hρf := hρ.func
           obtain ⟨fx10, -⟩ := hf; rw [qs10] at fx10
           clear hs
           clear HCS HVS qs3 qs10 qs11 qs14 qs19 qs20
           refine run_plain ?_
           refine op_move rfl fx10 ?_
           exact detK.mk
          refine sure_det (js := [(0, 190), (1, 191)]) (ts := []) (gd := none) (place_at HVS.out (k := 2) rfl) (by rw [HCS.out]; kernel_rfl) ?_ ?_
          ·intro wx hx ρ hρ hs hf; have hρc := hρ.const; have hρf := hρ.func; obtain ⟨sn0, sn1, -⟩ := hs; rw [place_at HVS.out (k := 0) rfl] at sn0; replace sn0 : ρ (.tmp 190) = _ := sn0; rw [place_at HVS.out (k := 1) rfl] at sn1; replace sn1 : ρ (.tmp 191) = _ := sn1
           clear hf
           clear HCS HVS qs3 qs10 qs11 qs14 qs19 qs20
           refine run_plain ?_
           unfold runs
           go_simp
           exact detK.mk
          refine sure_det (js := [(2, 192)]) (ts := []) (gd := none) (place_at HVS.out (k := 3) rfl) (by rw [HCS.out]; kernel_rfl) ?_ ?_
          ·intro wx hx ρ hρ hs hf; have hρc := hρ.const; have hρf := hρ.func; obtain ⟨sn2, -⟩ := hs; rw [place_at HVS.out (k := 2) rfl] at sn2; replace sn2 : ρ (.tmp 192) = _ := sn2
           clear hf
           clear HCS HVS qs3 qs10 qs11 qs14 qs19 qs20
           refine run_plain ?_
           refine op_move rfl sn2 ?_
           exact detK.mk
          refine sure_det (js := [(3, 193)]) (ts := [20]) (gd := (some (193, false))) (place_at HVS.out (k := 4) rfl) (by rw [HCS.out]; kernel_rfl) ?_ ?_
          ·intro wx hx ρ hρ hs hf; have hρc := hρ.const; have hρf := hρ.func; obtain ⟨sn3, -⟩ := hs
           obtain ⟨fx20, -⟩ := hf; rw [qs20] at fx20; rw [place_at HVS.out (k := 3) rfl] at sn3; replace sn3 : ρ (.tmp 193) = _ := sn3
           clear HCS HVS qs3 qs10 qs11 qs14 qs19 qs20
           first
            | (refine run_passed sn3 ?_; exact detK.mk)
            | (refine run_guarded sn3 ?_; refine op_move rfl fx20 ?_; exact detK.mk)
          refine sure_det (js := [(3, 193)]) (ts := [11]) (gd := (some (193, false))) (place_at HVS.out (k := 5) rfl) (by rw [HCS.out]; kernel_rfl) ?_ ?_
          ·intro wx hx ρ hρ hs hf; have hρc := hρ.const; have hρf := hρ.func; obtain ⟨sn3, -⟩ := hs
           obtain ⟨fx11, -⟩ := hf; rw [qs11] at fx11; rw [place_at HVS.out (k := 3) rfl] at sn3; replace sn3 : ρ (.tmp 193) = _ := sn3
           clear HCS HVS qs3 qs10 qs11 qs14 qs19 qs20
           first
            | (refine run_passed sn3 ?_; exact detK.mk)
            | (refine run_guarded sn3 ?_; refine op_move rfl fx11 ?_; exact detK.mk)
          refine sure_det (js := [(4, 194), (5, 195), (3, 193)]) (ts := []) (gd := (some (193, false))) (place_at HVS.out (k := 6) rfl) (by rw [HCS.out]; kernel_rfl) ?_ ?_
          ·intro wx hx ρ hρ hs hf; have hρc := hρ.const; have hρf := hρ.func; obtain ⟨sn4, sn5, sn3, -⟩ := hs; rw [place_at HVS.out (k := 4) rfl] at sn4; replace sn4 : ρ (.tmp 194) = _ := sn4; rw [place_at HVS.out (k := 5) rfl] at sn5; replace sn5 : ρ (.tmp 195) = _ := sn5; rw [place_at HVS.out (k := 3) rfl] at sn3; replace sn3 : ρ (.tmp 193) = _ := sn3
           clear hf
           clear HCS HVS qs3 qs10 qs11 qs14 qs19 qs20
           first
            | (refine run_passed sn3 ?_; exact detK.mk)
            | (refine run_guarded sn3 ?_; unfold runs; go_simp; exact detK.mk)
          refine sure_det (js := [(3, 193), (6, 196)]) (ts := []) (gd := none) (place_at HVS.out (k := 7) rfl) (by rw [HCS.out]; kernel_rfl) ?_ ?_
          ·intro wx hx ρ hρ hs hf; have hρc := hρ.const; have hρf := hρ.func; obtain ⟨sn3, sn6, -⟩ := hs; rw [place_at HVS.out (k := 3) rfl] at sn3; replace sn3 : ρ (.tmp 193) = _ := sn3; rw [place_at HVS.out (k := 6) rfl] at sn6; replace sn6 : ρ (.tmp 196) = _ := sn6
           clear hf
           clear HCS HVS qs3 qs10 qs11 qs14 qs19 qs20
           refine run_plain ?_
           first | refine op_pick_t rfl sn3 (hρ.const _) ?_ | refine op_pick_f rfl sn3 sn6 ?_
           exact detK.mk
          refine sure_det (js := [(7, 197)]) (ts := []) (gd := none) (place_at HVS.out (k := 8) rfl) (by rw [HCS.out]; kernel_rfl) ?_ ?_
          ·intro wx hx ρ hρ hs hf; have hρc := hρ.const; have hρf := hρ.func; obtain ⟨sn7, -⟩ := hs; rw [place_at HVS.out (k := 7) rfl] at sn7; replace sn7 : ρ (.tmp 197) = _ := sn7
           clear hf
           clear HCS HVS qs3 qs10 qs11 qs14 qs19 qs20
           refine run_plain ?_
           refine op_move rfl sn7 ?_
           exact detK.mk
          refine sure_det (js := [(8, 198)]) (ts := [19]) (gd := (some (198, true))) (place_at HVS.out (k := 9) rfl) (by rw [HCS.out]; kernel_rfl) ?_ ?_
          ·intro wx hx ρ hρ hs hf; have hρc := hρ.const; have hρf := hρ.func; obtain ⟨sn8, -⟩ := hs
           obtain ⟨fx19, -⟩ := hf; rw [qs19] at fx19; rw [place_at HVS.out (k := 8) rfl] at sn8; replace sn8 : ρ (.tmp 198) = _ := sn8
           clear HCS HVS qs3 qs10 qs11 qs14 qs19 qs20
           first
            | (refine run_passed sn8 ?_; exact detK.mk)
            | (refine run_guarded sn8 ?_; refine op_move rfl fx19 ?_; exact detK.mk)
          refine sure_det (js := [(8, 198)]) (ts := [14]) (gd := (some (198, true))) (place_at HVS.out (k := 10) rfl) (by rw [HCS.out]; kernel_rfl) ?_ ?_
          ·intro wx hx ρ hρ hs hf; have hρc := hρ.const; have hρf := hρ.func; obtain ⟨sn8, -⟩ := hs
           obtain ⟨fx14, -⟩ := hf; rw [qs14] at fx14; rw [place_at HVS.out (k := 8) rfl] at sn8; replace sn8 : ρ (.tmp 198) = _ := sn8
           clear HCS HVS qs3 qs10 qs11 qs14 qs19 qs20
           first
            | (refine run_passed sn8 ?_; exact detK.mk)
            | (refine run_guarded sn8 ?_; unfold runs; go_simp; exact detK.mk)
          refine sure_det (js := [(10, 200), (9, 199), (8, 198)]) (ts := []) (gd := (some (198, true))) (place_at HVS.out (k := 11) rfl) (by rw [HCS.out]; kernel_rfl) ?_ ?_
          ·intro wx hx ρ hρ hs hf; have hρc := hρ.const; have hρf := hρ.func; obtain ⟨sn10, sn9, sn8, -⟩ := hs; rw [place_at HVS.out (k := 10) rfl] at sn10; replace sn10 : ρ (.tmp 200) = _ := sn10; rw [place_at HVS.out (k := 9) rfl] at sn9; replace sn9 : ρ (.tmp 199) = _ := sn9; rw [place_at HVS.out (k := 8) rfl] at sn8; replace sn8 : ρ (.tmp 198) = _ := sn8
           clear hf
           clear HCS HVS qs3 qs10 qs11 qs14 qs19 qs20
           first
            | (refine run_passed sn8 ?_; exact detK.mk)
            | (refine run_guarded sn8 ?_; unfold runs; go_simp; exact detK.mk)
          refine sure_det (js := [(11, 201), (8, 198)]) (ts := []) (gd := (some (198, true))) (place_at HVS.out (k := 12) rfl) (by rw [HCS.out]; kernel_rfl) ?_ ?_
          ·intro wx hx ρ hρ hs hf; have hρc := hρ.const; have hρf := hρ.func; obtain ⟨sn11, sn8, -⟩ := hs; rw [place_at HVS.out (k := 11) rfl] at sn11; replace sn11 : ρ (.tmp 201) = _ := sn11; rw [place_at HVS.out (k := 8) rfl] at sn8; replace sn8 : ρ (.tmp 198) = _ := sn8
           clear hf
           clear HCS HVS qs3 qs10 qs11 qs14 qs19 qs20
           first
            | (refine run_passed sn8 ?_; exact detK.mk)
            | (refine run_guarded sn8 ?_; obtain ⟨p0, p1, p2, p3, p4, p5, -⟩ := hX wx hx.drawn; unfold runs; go_simp; exact detK.mk)
          refine sure_det (js := [(8, 198)]) (ts := [20]) (gd := (some (198, true))) (place_at HVS.out (k := 13) rfl) (by rw [HCS.out]; kernel_rfl) ?_ ?_
          ·intro wx hx ρ hρ hs hf; have hρc := hρ.const; have hρf := hρ.func; obtain ⟨sn8, -⟩ := hs
           obtain ⟨fx20, -⟩ := hf; rw [qs20] at fx20; rw [place_at HVS.out (k := 8) rfl] at sn8; replace sn8 : ρ (.tmp 198) = _ := sn8
           clear HCS HVS qs3 qs10 qs11 qs14 qs19 qs20
           first
            | (refine run_passed sn8 ?_; exact detK.mk)
            | (refine run_guarded sn8 ?_; refine op_move rfl fx20 ?_; exact detK.mk)
          refine sure_det (js := [(12, 202), (13, 203), (8, 198)]) (ts := []) (gd := (some (198, true))) (place_at HVS.out (k := 14) rfl) (by rw [HCS.out]; kernel_rfl) ?_ ?_
          ·intro wx hx ρ hρ hs hf; have hρc := hρ.const; have hρf := hρ.func; obtain ⟨sn12, sn13, sn8, -⟩ := hs; rw [place_at HVS.out (k := 12) rfl] at sn12; replace sn12 : ρ (.tmp 202) = _ := sn12; rw [place_at HVS.out (k := 13) rfl] at sn13; replace sn13 : ρ (.tmp 203) = _ := sn13; rw [place_at HVS.out (k := 8) rfl] at sn8; replace sn8 : ρ (.tmp 198) = _ := sn8
           clear hf
           clear HCS HVS qs3 qs10 qs11 qs14 qs19 qs20
           first
            | (refine run_passed sn8 ?_; exact detK.mk)
            | (refine run_guarded sn8 ?_; unfold runs; go_simp; exact detK.mk)
          refine sure_det (js := [(14, 204), (8, 198)]) (ts := []) (gd := (some (198, true))) (place_at HVS.out (k := 15) rfl) (by rw [HCS.out]; kernel_rfl) ?_ ?_
          ·intro wx hx ρ hρ hs hf; have hρc := hρ.const; have hρf := hρ.func; obtain ⟨sn14, sn8, -⟩ := hs; rw [place_at HVS.out (k := 14) rfl] at sn14; replace sn14 : ρ (.tmp 204) = _ := sn14; rw [place_at HVS.out (k := 8) rfl] at sn8; replace sn8 : ρ (.tmp 198) = _ := sn8
           clear hf
           clear HCS HVS qs3 qs10 qs11 qs14 qs19 qs20
           first
            | (refine run_passed sn8 ?_; exact detK.mk)
            | (refine run_guarded sn8 ?_; obtain ⟨p0, p1, p2, p3, p4, p5, -⟩ := hX wx hx.drawn; unfold runs; go_simp; exact detK.mk)
          refine sure_det (js := [(8, 198)]) (ts := [19]) (gd := (some (198, true))) (place_at HVS.out (k := 16) rfl) (by rw [HCS.out]; kernel_rfl) ?_ ?_
          ·intro wx hx ρ hρ hs hf; have hρc := hρ.const; have hρf := hρ.func; obtain ⟨sn8, -⟩ := hs
           obtain ⟨fx19, -⟩ := hf; rw [qs19] at fx19; rw [place_at HVS.out (k := 8) rfl] at sn8; replace sn8 : ρ (.tmp 198) = _ := sn8
           clear HCS HVS qs3 qs10 qs11 qs14 qs19 qs20
           first
            | (refine run_passed sn8 ?_; exact detK.mk)
            | (refine run_guarded sn8 ?_; refine op_move rfl fx19 ?_; exact detK.mk)
          refine sure_det (js := [(8, 198)]) (ts := [3]) (gd := (some (198, true))) (place_at HVS.out (k := 17) rfl) (by rw [HCS.out]; kernel_rfl) ?_ ?_
          ·intro wx hx ρ hρ hs hf; have hρc := hρ.const; have hρf := hρ.func; obtain ⟨sn8, -⟩ := hs
           obtain ⟨fx3, -⟩ := hf; rw [qs3] at fx3; rw [place_at HVS.out (k := 8) rfl] at sn8; replace sn8 : ρ (.tmp 198) = _ := sn8
           clear HCS HVS qs3 qs10 qs11 qs14 qs19 qs20
           first
            | (refine run_passed sn8 ?_; exact detK.mk)
            | (refine run_guarded sn8 ?_; unfold runs; go_simp; exact detK.mk)
          refine sure_det (js := [(17, 207), (16, 206), (8, 198)]) (ts := []) (gd := (some (198, true))) (place_at HVS.out (k := 18) rfl) (by rw [HCS.out]; kernel_rfl) ?_ ?_
          ·intro wx hx ρ hρ hs hf; have hρc := hρ.const; have hρf := hρ.func; obtain ⟨sn17, sn16, sn8, -⟩ := hs; rw [place_at HVS.out (k := 17) rfl] at sn17; replace sn17 : ρ (.tmp 207) = _ := sn17; rw [place_at HVS.out (k := 16) rfl] at sn16; replace sn16 : ρ (.tmp 206) = _ := sn16; rw [place_at HVS.out (k := 8) rfl] at sn8; replace sn8 : ρ (.tmp 198) = _ := sn8
           clear hf
           clear HCS HVS qs3 qs10 qs11 qs14 qs19 qs20
           first
            | (refine run_passed sn8 ?_; exact detK.mk)
            | (refine run_guarded sn8 ?_; unfold runs; go_simp; exact detK.mk)
          refine sure_det (js := [(18, 208), (8, 198)]) (ts := []) (gd := (some (198, true))) (place_at HVS.out (k := 19) rfl) (by rw [HCS.out]; kernel_rfl) ?_ ?_
          ·intro wx hx ρ hρ hs hf; have hρc := hρ.const; have hρf := hρ.func; obtain ⟨sn18, sn8, -⟩ := hs; rw [place_at HVS.out (k := 18) rfl] at sn18; replace sn18 : ρ (.tmp 208) = _ := sn18; rw [place_at HVS.out (k := 8) rfl] at sn8; replace sn8 : ρ (.tmp 198) = _ := sn8
           clear hf
           clear HCS HVS qs3 qs10 qs11 qs14 qs19 qs20
           first
            | (refine run_passed sn8 ?_; exact detK.mk)
            | (refine run_guarded sn8 ?_; obtain ⟨p0, p1, p2, p3, p4, p5, -⟩ := hX wx hx.drawn; unfold runs; go_simp; exact detK.mk)
          refine sure_det (js := [(8, 198)]) (ts := [20]) (gd := (some (198, true))) (place_at HVS.out (k := 20) rfl) (by rw [HCS.out]; kernel_rfl) ?_ ?_
          ·intro wx hx ρ hρ hs hf; have hρc := hρ.const; have hρf := hρ.func; obtain ⟨sn8, -⟩ := hs
           obtain ⟨fx20, -⟩ := hf; rw [qs20] at fx20; rw [place_at HVS.out (k := 8) rfl] at sn8; replace sn8 : ρ (.tmp 198) = _ := sn8
           clear HCS HVS qs3 qs10 qs11 qs14 qs19 qs20
           first
            | (refine run_passed sn8 ?_; exact detK.mk)
            | (refine run_guarded sn8 ?_; refine op_move rfl fx20 ?_; exact detK.mk)
          refine sure_det (js := [(19, 209), (20, 210), (8, 198)]) (ts := []) (gd := (some (198, true))) (place_at HVS.out (k := 21) rfl) (by rw [HCS.out]; kernel_rfl) ?_ ?_
          ·intro wx hx ρ hρ hs hf; have hρc := hρ.const; have hρf := hρ.func; obtain ⟨sn19, sn20, sn8, -⟩ := hs; rw [place_at HVS.out (k := 19) rfl] at sn19; replace sn19 : ρ (.tmp 209) = _ := sn19; rw [place_at HVS.out (k := 20) rfl] at sn20; replace sn20 : ρ (.tmp 210) = _ := sn20; rw [place_at HVS.out (k := 8) rfl] at sn8; replace sn8 : ρ (.tmp 198) = _ := sn8
           clear hf
           clear HCS HVS qs3 qs10 qs11 qs14 qs19 qs20
           first
            | (refine run_passed sn8 ?_; exact detK.mk)
            | (refine run_guarded sn8 ?_; unfold runs; go_simp; exact detK.mk)
          refine sure_det (js := [(21, 211), (8, 198)]) (ts := []) (gd := (some (198, true))) (place_at HVS.out (k := 22) rfl) (by rw [HCS.out]; kernel_rfl) ?_ ?_
          ·intro wx hx ρ hρ hs hf; have hρc := hρ.const; have hρf := hρ.func; obtain ⟨sn21, sn8, -⟩ := hs; rw [place_at HVS.out (k := 21) rfl] at sn21; replace sn21 : ρ (.tmp 211) = _ := sn21; rw [place_at HVS.out (k := 8) rfl] at sn8; replace sn8 : ρ (.tmp 198) = _ := sn8
           clear hf
           clear HCS HVS qs3 qs10 qs11 qs14 qs19 qs20
           first
            | (refine run_passed sn8 ?_; exact detK.mk)
            | (refine run_guarded sn8 ?_; obtain ⟨p0, p1, p2, p3, p4, p5, -⟩ := hX wx hx.drawn; unfold runs; go_simp; exact detK.mk)
          refine sure_det (js := [(15, 205), (22, 212), (8, 198)]) (ts := []) (gd := (some (198, true))) (place_at HVS.out (k := 23) rfl) (by rw [HCS.out]; kernel_rfl) ?_ ?_
          ·intro wx hx ρ hρ hs hf; have hρc := hρ.const; have hρf := hρ.func; obtain ⟨sn15, sn22, sn8, -⟩ := hs; rw [place_at HVS.out (k := 15) rfl] at sn15; replace sn15 : ρ (.tmp 205) = _ := sn15; rw [place_at HVS.out (k := 22) rfl] at sn22; replace sn22 : ρ (.tmp 212) = _ := sn22; rw [place_at HVS.out (k := 8) rfl] at sn8; replace sn8 : ρ (.tmp 198) = _ := sn8
           clear hf
           clear HCS HVS qs3 qs10 qs11 qs14 qs19 qs20
           first
            | (refine run_passed sn8 ?_; exact detK.mk)
            | (refine run_guarded sn8 ?_; refine op_call rfl hρ Try.call51 (map_two sn15 sn22) ?_; refine Calls.mono (hsame _ (hX _ hx.drawn).2.2.2.2.2.2) ?_; rintro e w' ⟨rfl, hx5⟩; refine ⟨_, rfl, ?_⟩; exact detK.ext hx5)
          refine sure_det (js := [(23, 213), (8, 198)]) (ts := []) (gd := (some (198, true))) (place_at HVS.out (k := 24) rfl) (by rw [HCS.out]; kernel_rfl) ?_ ?_
          ·intro wx hx ρ hρ hs hf; have hρc := hρ.const; have hρf := hρ.func; obtain ⟨sn23, sn8, -⟩ := hs; rw [place_at HVS.out (k := 23) rfl] at sn23; replace sn23 : ρ (.tmp 213) = _ := sn23; rw [place_at HVS.out (k := 8) rfl] at sn8; replace sn8 : ρ (.tmp 198) = _ := sn8
           clear hf
           clear HCS HVS qs3 qs10 qs11 qs14 qs19 qs20
           first
            | (refine run_passed sn8 ?_; exact detK.mk)
            | (refine run_guarded sn8 ?_; unfold runs; go_simp; exact detK.mk)
          refine sure_det (js := [(8, 198), (24, 214)]) (ts := []) (gd := none) (place_at HVS.out (k := 25) rfl) (by rw [HCS.out]; kernel_rfl) ?_ ?_
          ·intro wx hx ρ hρ hs hf; have hρc := hρ.const; have hρf := hρ.func; obtain ⟨sn8, sn24, -⟩ := hs; rw [place_at HVS.out (k := 8) rfl] at sn8; replace sn8 : ρ (.tmp 198) = _ := sn8; rw [place_at HVS.out (k := 24) rfl] at sn24; replace sn24 : ρ (.tmp 214) = _ := sn24
           clear hf
           clear HCS HVS qs3 qs10 qs11 qs14 qs19 qs20
           refine run_plain ?_
           first | refine op_pick_t rfl sn8 sn24 ?_ | refine op_pick_f rfl sn8 (hρ.const _) ?_
           exact detK.mk
          exact trivial
         case hend =>
          intro xs wx hx hg
          have gk0 : xs 0 = _ := goods_get hg (i := 0) (j := 0) (d := 190) rfl
          have gk1 : xs 1 = _ := goods_get hg (i := 1) (j := 1) (d := 191) rfl
          have gk2 : xs 2 = _ := goods_get hg (i := 2) (j := 2) (d := 192) rfl
          have gk3 : xs 3 = _ := goods_get hg (i := 3) (j := 3) (d := 193) rfl
          have gk4 : xs 4 = _ := goods_get hg (i := 4) (j := 4) (d := 194) rfl
          have gk5 : xs 5 = _ := goods_get hg (i := 5) (j := 5) (d := 195) rfl
          have gk6 : xs 6 = _ := goods_get hg (i := 6) (j := 6) (d := 196) rfl
          have gk7 : xs 7 = _ := goods_get hg (i := 7) (j := 7) (d := 197) rfl
          have gk8 : xs 8 = _ := goods_get hg (i := 8) (j := 8) (d := 198) rfl
          have gk9 : xs 9 = _ := goods_get hg (i := 9) (j := 9) (d := 199) rfl
          have gk10 : xs 10 = _ := goods_get hg (i := 10) (j := 10) (d := 200) rfl
          have gk11 : xs 11 = _ := goods_get hg (i := 11) (j := 11) (d := 201) rfl
          have gk12 : xs 12 = _ := goods_get hg (i := 12) (j := 12) (d := 202) rfl
          have gk13 : xs 13 = _ := goods_get hg (i := 13) (j := 13) (d := 203) rfl
          have gk14 : xs 14 = _ := goods_get hg (i := 14) (j := 14) (d := 204) rfl
          have gk15 : xs 15 = _ := goods_get hg (i := 15) (j := 15) (d := 205) rfl
          have gk16 : xs 16 = _ := goods_get hg (i := 16) (j := 16) (d := 206) rfl
          have gk17 : xs 17 = _ := goods_get hg (i := 17) (j := 17) (d := 207) rfl
          have gk18 : xs 18 = _ := goods_get hg (i := 18) (j := 18) (d := 208) rfl
          have gk19 : xs 19 = _ := goods_get hg (i := 19) (j := 19) (d := 209) rfl
          have gk20 : xs 20 = _ := goods_get hg (i := 20) (j := 20) (d := 210) rfl
          have gk21 : xs 21 = _ := goods_get hg (i := 21) (j := 21) (d := 211) rfl
          have gk22 : xs 22 = _ := goods_get hg (i := 22) (j := 22) (d := 212) rfl
          have gk23 : xs 23 = _ := goods_get hg (i := 23) (j := 23) (d := 213) rfl
          have gk24 : xs 24 = _ := goods_get hg (i := 24) (j := 24) (d := 214) rfl
          have gk25 : xs 25 = _ := goods_get hg (i := 25) (j := 25) (d := 215) rfl
          clear hg
          simp only [putAll, gk0, gk1, gk2, gk3, gk4, gk5, gk6, gk7, gk8, gk9, gk10, gk11, gk12, gk13, gk14, gk15, gk16, gk17, gk18, gk19, gk20, gk21, gk22, gk23, gk24, gk25]
          clear gk0 gk1 gk2 gk3 gk4 gk5 gk6 gk7 gk8 gk9 gk10 gk11 gk12 gk13 gk14 gk15 gk16 gk17 gk18 gk19 gk20 gk21 gk22 gk23 gk24 gk25
          clear xs
          simp only [Act.put, List.setIfInBounds_toArray, List.set_cons_zero, List.set_cons_succ]
          have hxr2 := hxr.trans hx.drawn
          clear hX hx hsame hxr a1
          go_upto_region 28 with (fail)
          generalize wx = Wy at *
          have b1 : Wy.cell? ⟨gc, 1, none⟩ = some (.slice (some aC) n1 d0) := hxr2.cell (by simp [World.cell?, hdc])
          have c0' := hxr2.cell v0
          have c1' := hxr2.cell v1
          go_upto_region 29 with (fail)
          have hwz : Ext Wy (Wy.alloc (.cells #[.slice (u.cut z).D (u.cut z).q (u.cut z).cd, .int .i64 (u.cut z).k] 94)) := (Below.refl _ Wy).alloc (Nat.le_refl _) _
          have hdz : (Wy.alloc (.cells #[.slice (u.cut z).D (u.cut z).q (u.cut z).cd, .int .i64 (u.cut z).k] 94)).heap[Wy.heap.size]? = some (.cells #[.slice (u.cut z).D (u.cut z).q (u.cut z).cd, .int .i64 (u.cut z).k] 94 (0, 0)) := heap_alloc_new Wy _
          generalize Wy.alloc (.cells #[.slice (u.cut z).D (u.cut z).q (u.cut z).cd, .int .i64 (u.cut z).k] 94) = Wz at *
          generalize Wy.heap.size = gz at *
          have hxz := hxr2.trans hwz
          have hge := cutN_ge (more := z) hu0 hu1
          have hle := cutN_le (more := z) hu0 hu1
          have hvz := StOK.ext vok hxz
          have huz := StOK.ext uok hxz
          clear b1 c0' c1' hwz hxr2
          simp only [St.cut] at hdz hvz
          simp only [St.cut]
          generalize cutN u.q u.k z = N at *
          have hge' : ¬ (N : Int) < u.k := by omega
          have hle' : ¬ (u.q : Int) < (N : Int) := by omega
          have hbu := BytesV.upto huz hle
          have hcd : N ≤ u.cd := Nat.le_trans hle (BytesV.le huz)
          have hsl := fun W => run_slice_hi (P := Try.prog) 27 5 i0 Try.underlying27 hi0 u.D u.q u.cd N hcd W
          have hX : ∀ wx, Ext Wz wx → wx.cell? ⟨ga, 1, none⟩ = some (.slice (some aA) n1 c0) ∧ wx.cell? ⟨gz, 0, none⟩ = some (.slice u.D N N) ∧ wx.cell? ⟨gz, 1, none⟩ = some (.int .i64 N) ∧ wx.cell? (aA.add (j * 2)) = some (.slice u.D u.q u.cd) ∧ wx.cell? ⟨(aA.add (j * 2)).block, (aA.add (j * 2)).off + 1, none⟩ = some (.int .i64 u.k) ∧ Ext Wz wx := fun wx hx =>
           ⟨(hxz.trans hx).cell (by simp [World.cell?, hda]), hx.cell (by simp [World.cell?, hdz]), hx.cell (by simp [World.cell?, hdz]), (hxz.trans hx).cell u0, (hxz.trans hx).cell u1, hx⟩
          refine' wp_region_sure_all ⟨((some 223, [], none) :: (some 224, [0], none) :: (some 225, [1], none) :: (some 226, [], none) :: (some 227, [], none) :: (some 228, [4, 3], none) :: (some 229, [5], none) :: (some 230, [], none) :: (some 231, [6, 7], none) :: (some 232, [8], none) :: (some 233, [9], none) :: (some 234, [2, 10], none) :: (some 235, [11], none) :: (some 236, [12], some (12, false)) :: (some 237, [13, 12], some (12, false)) :: (some 238, [14, 12], some (12, false)) :: (some 239, [12], some (12, false)) :: (some 240, [12], some (12, false)) :: (some 241, [17, 16, 12], some (12, false)) :: (some 242, [18, 12], some (12, false)) :: (some 243, [12], some (12, false)) :: (some 244, [19, 20, 12], some (12, false)) :: (some 245, [21, 12], some (12, false)) :: (some 246, [22, 12], some (12, false)) :: (some 247, [23, 12], some (12, false)) :: (some 248, [15, 24, 12], some (12, false)) :: (some 249, [12, 25], none) :: (some 250, [26, 12], none) :: (some 251, [27], some (27, false)) :: (some 252, [28, 27], some (27, false)) :: (some 253, [29, 27], some (27, false)) :: (some 254, [27], some (27, false)) :: (some 255, [27], some (27, false)) :: (some 256, [32, 31, 27], some (27, false)) :: (some 257, [33, 27], some (27, false)) :: (some 258, [27], some (27, false)) :: (some 259, [34, 35, 27], some (27, false)) :: (some 260, [36, 27], some (27, false)) :: (some 261, [37, 27], some (27, false)) :: (some 262, [27], some (27, false)) :: (some 263, [39, 27], some (27, false)) :: (some 264, [40, 27], some (27, false)) :: (some 265, [38, 41, 27], some (27, false)) :: (some 266, [42, 27], some (27, false)) :: (some 267, [30, 43, 27], some (27, false)) :: (some 268, [27, 44], none) :: (some 269, [45, 27], none) :: (some 270, [46], some (46, false)) :: (some 271, [47, 46], some (46, false)) :: (some 272, [46], some (46, false)) :: (some 273, [49, 46], some (46, false)) :: (some 274, [50, 46], some (46, false)) :: (some 275, [48, 51, 46], some (46, false)) :: (some 276, [46, 52], none) :: []), (0 :: 1 :: 3 :: 0 :: 0 :: 24 :: 56 :: 0 :: 248 :: 504 :: 1016 :: 2047 :: 4095 :: 8191 :: 16383 :: 32767 :: 8191 :: 8191 :: 204799 :: 466943 :: 8191 :: 2039807 :: 4136959 :: 8331263 :: 16719871 :: 33554431 :: 67108863 :: 134217727 :: 268435455 :: 536870911 :: 1073741823 :: 268435455 :: 268435455 :: 6710886399 :: 15300820991 :: 268435455 :: 66840428543 :: 135559905279 :: 272998858751 :: 268435455 :: 550024249343 :: 1649535877119 :: 4396167462911 :: 8794213974015 :: 17592186044415 :: 35184372088831 :: 70368744177663 :: 140737488355327 :: 281474976710655 :: 140737488355327 :: 703687441776639 :: 1829587348619263 :: 4503599627370495 :: 9007199254740991 :: []), (true :: true :: true :: true :: true :: true :: true :: true :: true :: true :: true :: true :: true :: true :: true :: true :: true :: true :: true :: true :: true :: true :: true :: true :: true :: true :: true :: true :: true :: true :: true :: true :: true :: true :: true :: true :: true :: true :: true :: true :: true :: true :: true :: true :: true :: true :: true :: true :: true :: true :: true :: true :: true :: true :: []), [], 0⟩ 54 318 ((0, 223) :: (1, 224) :: (2, 225) :: (3, 226) :: (4, 227) :: (5, 228) :: (6, 229) :: (7, 230) :: (8, 231) :: (9, 232) :: (10, 233) :: (11, 234) :: (12, 235) :: (13, 236) :: (14, 237) :: (15, 238) :: (16, 239) :: (17, 240) :: (18, 241) :: (19, 242) :: (20, 243) :: (21, 244) :: (22, 245) :: (23, 246) :: (24, 247) :: (25, 248) :: (26, 249) :: (27, 250) :: (28, 251) :: (29, 252) :: (30, 253) :: (31, 254) :: (32, 255) :: (33, 256) :: (34, 257) :: (35, 258) :: (36, 259) :: (37, 260) :: (38, 261) :: (39, 262) :: (40, 263) :: (41, 264) :: (42, 265) :: (43, 266) :: (44, 267) :: (45, 268) :: (46, 269) :: (47, 270) :: (48, 271) :: (49, 272) :: (50, 273) :: (51, 274) :: (52, 275) :: (53, 276) :: []) ((0, 223) :: (1, 224) :: (2, 225) :: (3, 226) :: (4, 227) :: (5, 228) :: (6, 229) :: (7, 230) :: (8, 231) :: (9, 232) :: (10, 233) :: (11, 234) :: (12, 235) :: (13, 236) :: (14, 237) :: (15, 238) :: (16, 239) :: (17, 240) :: (18, 241) :: (19, 242) :: (20, 243) :: (21, 244) :: (22, 245) :: (23, 246) :: (24, 247) :: (25, 248) :: (26, 249) :: (27, 250) :: (28, 251) :: (29, 252) :: (30, 253) :: (31, 254) :: (32, 255) :: (33, 256) :: (34, 257) :: (35, 258) :: (36, 259) :: (37, 260) :: (38, 261) :: (39, 262) :: (40, 263) :: (41, 264) :: (42, 265) :: (43, 266) :: (44, 267) :: (45, 268) :: (46, 269) :: (47, 270) :: (48, 271) :: (49, 272) :: (50, 273) :: (51, 274) :: (52, 275) :: (53, 276) :: []) (.det _ :: .det _ :: .det _ :: .det _ :: .det _ :: .det _ :: .det _ :: .det _ :: .det _ :: .det _ :: .det _ :: .det _ :: .det _ :: .det _ :: .det _ :: .det _ :: .det _ :: .det _ :: .det _ :: .det _ :: .det _ :: .det _ :: .det _ :: .det _ :: .det _ :: .det _ :: .det _ :: .det _ :: .det _ :: .det _ :: .det _ :: .det _ :: .det _ :: .det _ :: .det _ :: .det _ :: .det _ :: .det _ :: .det _ :: .det _ :: .det _ :: .det _ :: .det _ :: .det _ :: .det _ :: .det _ :: .det _ :: .det _ :: .det _ :: .det _ :: .det _ :: .det _ :: .det _ :: .det _ :: []) (by kernel_rfl) (by kernel_rfl) (by kernel_rfl) rfl (by kernel_rfl) (by kernel_rfl) rfl (by kernel_rfl) ?hone ?hend
          case hone =>
           intro CS frS VS hCS ha hV
           have qs3 := slot_val (t := 3) ha rfl
           simp only [List.getElem_toArray, List.getElem_cons_succ, List.getElem_cons_zero] at qs3
           have qs19 := slot_val (t := 19) ha rfl
           simp only [List.getElem_toArray, List.getElem_cons_succ, List.getElem_cons_zero] at qs19
           have qs20 := slot_val (t := 20) ha rfl
           simp only [List.getElem_toArray, List.getElem_cons_succ, List.getElem_cons_zero] at qs20
           have qs21 := slot_val (t := 21) ha rfl
           simp only [List.getElem_toArray, List.getElem_cons_succ, List.getElem_cons_zero] at qs21
           have HCS := Lib.hid hCS
           have HVS := Lib.hid hV
           clear ha hCS hV
           refine sure_det (js := []) (ts := [21]) (gd := none) (place_at HVS.out (k := 0) rfl) (by rw [HCS.out]; kernel_rfl) ?_ ?_
           ·intro wx hx ρ hρ hs hf; have hρc := hρ.const; have hρf := hρ.func
            obtain ⟨fx21, -⟩ := hf; rw [qs21] at fx21
            clear hs
            clear HCS HVS qs3 qs19 qs20 qs21
            refine run_plain ?_
            unfold runs
            go_simp
            exact detK.mk
           refine sure_det (js := [(0, 223)]) (ts := []) (gd := none) (place_at HVS.out (k := 1) rfl) (by rw [HCS.out]; kernel_rfl) ?_ ?_
           ·intro wx hx ρ hρ hs hf; have hρc := hρ.const; have hρf := hρ.func; obtain ⟨sn0, -⟩ := hs; rw [place_at HVS.out (k := 0) rfl] at sn0; replace sn0 : ρ (.tmp 223) = _ := sn0
            clear hf
            clear HCS HVS qs3 qs19 qs20 qs21
            refine run_plain ?_
            obtain ⟨p0, p1, p2, p3, p4, -⟩ := hX wx hx.drawn
            unfold runs
            go_simp
            exact detK.mk
           refine sure_det (js := [(1, 224)]) (ts := []) (gd := none) (place_at HVS.out (k := 2) rfl) (by rw [HCS.out]; kernel_rfl) ?_ ?_
           ·intro wx hx ρ hρ hs hf; have hρc := hρ.const; have hρf := hρ.func; obtain ⟨sn1, -⟩ := hs; rw [place_at HVS.out (k := 1) rfl] at sn1; replace sn1 : ρ (.tmp 224) = _ := sn1
            clear hf
            clear HCS HVS qs3 qs19 qs20 qs21
            refine run_plain ?_
            unfold runs
            go_simp
            exact detK.mk
           refine sure_det (js := []) (ts := [19]) (gd := none) (place_at HVS.out (k := 3) rfl) (by rw [HCS.out]; kernel_rfl) ?_ ?_
           ·intro wx hx ρ hρ hs hf; have hρc := hρ.const; have hρf := hρ.func
            obtain ⟨fx19, -⟩ := hf; rw [qs19] at fx19
            clear hs
            clear HCS HVS qs3 qs19 qs20 qs21
            refine run_plain ?_
            refine op_move rfl fx19 ?_
            exact detK.mk
           refine sure_det (js := []) (ts := [3]) (gd := none) (place_at HVS.out (k := 4) rfl) (by rw [HCS.out]; kernel_rfl) ?_ ?_
           ·intro wx hx ρ hρ hs hf; have hρc := hρ.const; have hρf := hρ.func
            obtain ⟨fx3, -⟩ := hf; rw [qs3] at fx3
            clear hs
            clear HCS HVS qs3 qs19 qs20 qs21
            refine run_plain ?_
            unfold runs
            go_simp
            exact detK.mk
           refine sure_det (js := [(4, 227), (3, 226)]) (ts := []) (gd := none) (place_at HVS.out (k := 5) rfl) (by rw [HCS.out]; kernel_rfl) ?_ ?_
           ·intro wx hx ρ hρ hs hf; have hρc := hρ.const; have hρf := hρ.func; obtain ⟨sn4, sn3, -⟩ := hs; rw [place_at HVS.out (k := 4) rfl] at sn4; replace sn4 : ρ (.tmp 227) = _ := sn4; rw [place_at HVS.out (k := 3) rfl] at sn3; replace sn3 : ρ (.tmp 226) = _ := sn3
            clear hf
            clear HCS HVS qs3 qs19 qs20 qs21
            refine run_plain ?_
            unfold runs
            go_simp
            exact detK.mk
           refine sure_det (js := [(5, 228)]) (ts := []) (gd := none) (place_at HVS.out (k := 6) rfl) (by rw [HCS.out]; kernel_rfl) ?_ ?_
           ·intro wx hx ρ hρ hs hf; have hρc := hρ.const; have hρf := hρ.func; obtain ⟨sn5, -⟩ := hs; rw [place_at HVS.out (k := 5) rfl] at sn5; replace sn5 : ρ (.tmp 228) = _ := sn5
            clear hf
            clear HCS HVS qs3 qs19 qs20 qs21
            refine run_plain ?_
            obtain ⟨p0, p1, p2, p3, p4, -⟩ := hX wx hx.drawn
            unfold runs
            go_simp
            exact detK.mk
           refine sure_det (js := []) (ts := [20]) (gd := none) (place_at HVS.out (k := 7) rfl) (by rw [HCS.out]; kernel_rfl) ?_ ?_
           ·intro wx hx ρ hρ hs hf; have hρc := hρ.const; have hρf := hρ.func
            obtain ⟨fx20, -⟩ := hf; rw [qs20] at fx20
            clear hs
            clear HCS HVS qs3 qs19 qs20 qs21
            refine run_plain ?_
            refine op_move rfl fx20 ?_
            exact detK.mk
           refine sure_det (js := [(6, 229), (7, 230)]) (ts := []) (gd := none) (place_at HVS.out (k := 8) rfl) (by rw [HCS.out]; kernel_rfl) ?_ ?_
           ·intro wx hx ρ hρ hs hf; have hρc := hρ.const; have hρf := hρ.func; obtain ⟨sn6, sn7, -⟩ := hs; rw [place_at HVS.out (k := 6) rfl] at sn6; replace sn6 : ρ (.tmp 229) = _ := sn6; rw [place_at HVS.out (k := 7) rfl] at sn7; replace sn7 : ρ (.tmp 230) = _ := sn7
            clear hf
            clear HCS HVS qs3 qs19 qs20 qs21
            refine run_plain ?_
            unfold runs
            go_simp
            exact detK.mk
           refine sure_det (js := [(8, 231)]) (ts := []) (gd := none) (place_at HVS.out (k := 9) rfl) (by rw [HCS.out]; kernel_rfl) ?_ ?_
           ·intro wx hx ρ hρ hs hf; have hρc := hρ.const; have hρf := hρ.func; obtain ⟨sn8, -⟩ := hs; rw [place_at HVS.out (k := 8) rfl] at sn8; replace sn8 : ρ (.tmp 231) = _ := sn8
            clear hf
            clear HCS HVS qs3 qs19 qs20 qs21
            refine run_plain ?_
            unfold runs
            go_simp
            exact detK.mk
           refine sure_det (js := [(9, 232)]) (ts := []) (gd := none) (place_at HVS.out (k := 10) rfl) (by rw [HCS.out]; kernel_rfl) ?_ ?_
           ·intro wx hx ρ hρ hs hf; have hρc := hρ.const; have hρf := hρ.func; obtain ⟨sn9, -⟩ := hs; rw [place_at HVS.out (k := 9) rfl] at sn9; replace sn9 : ρ (.tmp 232) = _ := sn9
            clear hf
            clear HCS HVS qs3 qs19 qs20 qs21
            refine run_plain ?_
            obtain ⟨p0, p1, p2, p3, p4, -⟩ := hX wx hx.drawn
            unfold runs
            go_simp
            exact detK.mk
           refine sure_det (js := [(2, 225), (10, 233)]) (ts := []) (gd := none) (place_at HVS.out (k := 11) rfl) (by rw [HCS.out]; kernel_rfl) ?_ ?_
           ·intro wx hx ρ hρ hs hf; have hρc := hρ.const; have hρf := hρ.func; obtain ⟨sn2, sn10, -⟩ := hs; rw [place_at HVS.out (k := 2) rfl] at sn2; replace sn2 : ρ (.tmp 225) = _ := sn2; rw [place_at HVS.out (k := 10) rfl] at sn10; replace sn10 : ρ (.tmp 233) = _ := sn10
            clear hf
            clear HCS HVS qs3 qs19 qs20 qs21
            refine run_plain ?_
            unfold runs
            go_simp
            exact detK.mk
           refine sure_det (js := [(11, 234)]) (ts := []) (gd := none) (place_at HVS.out (k := 12) rfl) (by rw [HCS.out]; kernel_rfl) ?_ ?_
           ·intro wx hx ρ hρ hs hf; have hρc := hρ.const; have hρf := hρ.func; obtain ⟨sn11, -⟩ := hs; rw [place_at HVS.out (k := 11) rfl] at sn11; replace sn11 : ρ (.tmp 234) = _ := sn11
            clear hf
            clear HCS HVS qs3 qs19 qs20 qs21
            refine run_plain ?_
            refine op_move rfl sn11 ?_
            exact detK.mk
           refine sure_det (js := [(12, 235)]) (ts := [21]) (gd := (some (235, false))) (place_at HVS.out (k := 13) rfl) (by rw [HCS.out]; kernel_rfl) ?_ ?_
           ·intro wx hx ρ hρ hs hf; have hρc := hρ.const; have hρf := hρ.func; obtain ⟨sn12, -⟩ := hs
            obtain ⟨fx21, -⟩ := hf; rw [qs21] at fx21; rw [place_at HVS.out (k := 12) rfl] at sn12; replace sn12 : ρ (.tmp 235) = _ := sn12
            clear HCS HVS qs3 qs19 qs20 qs21
            first
             | (refine run_passed sn12 ?_; exact detK.mk)
             | (refine run_guarded sn12 ?_; unfold runs; go_simp; exact detK.mk)
           refine sure_det (js := [(13, 236), (12, 235)]) (ts := []) (gd := (some (235, false))) (place_at HVS.out (k := 14) rfl) (by rw [HCS.out]; kernel_rfl) ?_ ?_
           ·intro wx hx ρ hρ hs hf; have hρc := hρ.const; have hρf := hρ.func; obtain ⟨sn13, sn12, -⟩ := hs; rw [place_at HVS.out (k := 13) rfl] at sn13; replace sn13 : ρ (.tmp 236) = _ := sn13; rw [place_at HVS.out (k := 12) rfl] at sn12; replace sn12 : ρ (.tmp 235) = _ := sn12
            clear hf
            clear HCS HVS qs3 qs19 qs20 qs21
            first
             | (refine run_passed sn12 ?_; exact detK.mk)
             | (refine run_guarded sn12 ?_; obtain ⟨p0, p1, p2, p3, p4, -⟩ := hX wx hx.drawn; unfold runs; go_simp; exact detK.mk)
           refine sure_det (js := [(14, 237), (12, 235)]) (ts := []) (gd := (some (235, false))) (place_at HVS.out (k := 15) rfl) (by rw [HCS.out]; kernel_rfl) ?_ ?_
           ·intro wx hx ρ hρ hs hf; have hρc := hρ.const; have hρf := hρ.func; obtain ⟨sn14, sn12, -⟩ := hs; rw [place_at HVS.out (k := 14) rfl] at sn14; replace sn14 : ρ (.tmp 237) = _ := sn14; rw [place_at HVS.out (k := 12) rfl] at sn12; replace sn12 : ρ (.tmp 235) = _ := sn12
            clear hf
            clear HCS HVS qs3 qs19 qs20 qs21
            first
             | (refine run_passed sn12 ?_; exact detK.mk)
             | (refine run_guarded sn12 ?_; unfold runs; go_simp; exact detK.mk)
           refine sure_det (js := [(12, 235)]) (ts := [19]) (gd := (some (235, false))) (place_at HVS.out (k := 16) rfl) (by rw [HCS.out]; kernel_rfl) ?_ ?_
           ·intro wx hx ρ hρ hs hf; have hρc := hρ.const; have hρf := hρ.func; obtain ⟨sn12, -⟩ := hs
            obtain ⟨fx19, -⟩ := hf; rw [qs19] at fx19; rw [place_at HVS.out (k := 12) rfl] at sn12; replace sn12 : ρ (.tmp 235) = _ := sn12
            clear HCS HVS qs3 qs19 qs20 qs21
            first
             | (refine run_passed sn12 ?_; exact detK.mk)
             | (refine run_guarded sn12 ?_; refine op_move rfl fx19 ?_; exact detK.mk)
           refine sure_det (js := [(12, 235)]) (ts := [3]) (gd := (some (235, false))) (place_at HVS.out (k := 17) rfl) (by rw [HCS.out]; kernel_rfl) ?_ ?_
           ·intro wx hx ρ hρ hs hf; have hρc := hρ.const; have hρf := hρ.func; obtain ⟨sn12, -⟩ := hs
            obtain ⟨fx3, -⟩ := hf; rw [qs3] at fx3; rw [place_at HVS.out (k := 12) rfl] at sn12; replace sn12 : ρ (.tmp 235) = _ := sn12
            clear HCS HVS qs3 qs19 qs20 qs21
            first
             | (refine run_passed sn12 ?_; exact detK.mk)
             | (refine run_guarded sn12 ?_; unfold runs; go_simp; exact detK.mk)
           refine sure_det (js := [(17, 240), (16, 239), (12, 235)]) (ts := []) (gd := (some (235, false))) (place_at HVS.out (k := 18) rfl) (by rw [HCS.out]; kernel_rfl) ?_ ?_
           ·intro wx hx ρ hρ hs hf; have hρc := hρ.const; have hρf := hρ.func; obtain ⟨sn17, sn16, sn12, -⟩ := hs; rw [place_at HVS.out (k := 17) rfl] at sn17; replace sn17 : ρ (.tmp 240) = _ := sn17; rw [place_at HVS.out (k := 16) rfl] at sn16; replace sn16 : ρ (.tmp 239) = _ := sn16; rw [place_at HVS.out (k := 12) rfl] at sn12; replace sn12 : ρ (.tmp 235) = _ := sn12
            clear hf
            clear HCS HVS qs3 qs19 qs20 qs21
            first
             | (refine run_passed sn12 ?_; exact detK.mk)
             | (refine run_guarded sn12 ?_; unfold runs; go_simp; exact detK.mk)
           refine sure_det (js := [(18, 241), (12, 235)]) (ts := []) (gd := (some (235, false))) (place_at HVS.out (k := 19) rfl) (by rw [HCS.out]; kernel_rfl) ?_ ?_
           ·intro wx hx ρ hρ hs hf; have hρc := hρ.const; have hρf := hρ.func; obtain ⟨sn18, sn12, -⟩ := hs; rw [place_at HVS.out (k := 18) rfl] at sn18; replace sn18 : ρ (.tmp 241) = _ := sn18; rw [place_at HVS.out (k := 12) rfl] at sn12; replace sn12 : ρ (.tmp 235) = _ := sn12
            clear hf
            clear HCS HVS qs3 qs19 qs20 qs21
            first
             | (refine run_passed sn12 ?_; exact detK.mk)
             | (refine run_guarded sn12 ?_; obtain ⟨p0, p1, p2, p3, p4, -⟩ := hX wx hx.drawn; unfold runs; go_simp; exact detK.mk)
           refine sure_det (js := [(12, 235)]) (ts := [20]) (gd := (some (235, false))) (place_at HVS.out (k := 20) rfl) (by rw [HCS.out]; kernel_rfl) ?_ ?_
           ·intro wx hx ρ hρ hs hf; have hρc := hρ.const; have hρf := hρ.func; obtain ⟨sn12, -⟩ := hs
            obtain ⟨fx20, -⟩ := hf; rw [qs20] at fx20; rw [place_at HVS.out (k := 12) rfl] at sn12; replace sn12 : ρ (.tmp 235) = _ := sn12
            clear HCS HVS qs3 qs19 qs20 qs21
            first
             | (refine run_passed sn12 ?_; exact detK.mk)
             | (refine run_guarded sn12 ?_; refine op_move rfl fx20 ?_; exact detK.mk)
           refine sure_det (js := [(19, 242), (20, 243), (12, 235)]) (ts := []) (gd := (some (235, false))) (place_at HVS.out (k := 21) rfl) (by rw [HCS.out]; kernel_rfl) ?_ ?_
           ·intro wx hx ρ hρ hs hf; have hρc := hρ.const; have hρf := hρ.func; obtain ⟨sn19, sn20, sn12, -⟩ := hs; rw [place_at HVS.out (k := 19) rfl] at sn19; replace sn19 : ρ (.tmp 242) = _ := sn19; rw [place_at HVS.out (k := 20) rfl] at sn20; replace sn20 : ρ (.tmp 243) = _ := sn20; rw [place_at HVS.out (k := 12) rfl] at sn12; replace sn12 : ρ (.tmp 235) = _ := sn12
            clear hf
            clear HCS HVS qs3 qs19 qs20 qs21
            first
             | (refine run_passed sn12 ?_; exact detK.mk)
             | (refine run_guarded sn12 ?_; unfold runs; go_simp; exact detK.mk)
           refine sure_det (js := [(21, 244), (12, 235)]) (ts := []) (gd := (some (235, false))) (place_at HVS.out (k := 22) rfl) (by rw [HCS.out]; kernel_rfl) ?_ ?_
           ·intro wx hx ρ hρ hs hf; have hρc := hρ.const; have hρf := hρ.func; obtain ⟨sn21, sn12, -⟩ := hs; rw [place_at HVS.out (k := 21) rfl] at sn21; replace sn21 : ρ (.tmp 244) = _ := sn21; rw [place_at HVS.out (k := 12) rfl] at sn12; replace sn12 : ρ (.tmp 235) = _ := sn12
            clear hf
            clear HCS HVS qs3 qs19 qs20 qs21
            first
             | (refine run_passed sn12 ?_; exact detK.mk)
             | (refine run_guarded sn12 ?_; unfold runs; go_simp; exact detK.mk)
           refine sure_det (js := [(22, 245), (12, 235)]) (ts := []) (gd := (some (235, false))) (place_at HVS.out (k := 23) rfl) (by rw [HCS.out]; kernel_rfl) ?_ ?_
           ·intro wx hx ρ hρ hs hf; have hρc := hρ.const; have hρf := hρ.func; obtain ⟨sn22, sn12, -⟩ := hs; rw [place_at HVS.out (k := 22) rfl] at sn22; replace sn22 : ρ (.tmp 245) = _ := sn22; rw [place_at HVS.out (k := 12) rfl] at sn12; replace sn12 : ρ (.tmp 235) = _ := sn12
            clear hf
            clear HCS HVS qs3 qs19 qs20 qs21
            first
             | (refine run_passed sn12 ?_; exact detK.mk)
             | (refine run_guarded sn12 ?_; obtain ⟨p0, p1, p2, p3, p4, -⟩ := hX wx hx.drawn; unfold runs; go_simp; exact detK.mk)
           refine sure_det (js := [(23, 246), (12, 235)]) (ts := []) (gd := (some (235, false))) (place_at HVS.out (k := 24) rfl) (by rw [HCS.out]; kernel_rfl) ?_ ?_
           ·intro wx hx ρ hρ hs hf; have hρc := hρ.const; have hρf := hρ.func; obtain ⟨sn23, sn12, -⟩ := hs; rw [place_at HVS.out (k := 23) rfl] at sn23; replace sn23 : ρ (.tmp 246) = _ := sn23; rw [place_at HVS.out (k := 12) rfl] at sn12; replace sn12 : ρ (.tmp 235) = _ := sn12
            clear hf
            clear HCS HVS qs3 qs19 qs20 qs21
            first
             | (refine run_passed sn12 ?_; exact detK.mk)
             | (refine run_guarded sn12 ?_; unfold runs; go_simp; exact detK.mk)
           refine sure_det (js := [(15, 238), (24, 247), (12, 235)]) (ts := []) (gd := (some (235, false))) (place_at HVS.out (k := 25) rfl) (by rw [HCS.out]; kernel_rfl) ?_ ?_
           ·intro wx hx ρ hρ hs hf; have hρc := hρ.const; have hρf := hρ.func; obtain ⟨sn15, sn24, sn12, -⟩ := hs; rw [place_at HVS.out (k := 15) rfl] at sn15; replace sn15 : ρ (.tmp 238) = _ := sn15; rw [place_at HVS.out (k := 24) rfl] at sn24; replace sn24 : ρ (.tmp 247) = _ := sn24; rw [place_at HVS.out (k := 12) rfl] at sn12; replace sn12 : ρ (.tmp 235) = _ := sn12
            clear hf
            clear HCS HVS qs3 qs19 qs20 qs21
            first
             | (refine run_passed sn12 ?_; exact detK.mk)
             | (refine run_guarded sn12 ?_; unfold runs; go_simp; exact detK.mk)
           refine sure_det (js := [(12, 235), (25, 248)]) (ts := []) (gd := none) (place_at HVS.out (k := 26) rfl) (by rw [HCS.out]; kernel_rfl) ?_ ?_
           ·intro wx hx ρ hρ hs hf; have hρc := hρ.const; have hρf := hρ.func; obtain ⟨sn12, sn25, -⟩ := hs; rw [place_at HVS.out (k := 12) rfl] at sn12; replace sn12 : ρ (.tmp 235) = _ := sn12; rw [place_at HVS.out (k := 25) rfl] at sn25; replace sn25 : ρ (.tmp 248) = _ := sn25
            clear hf
            clear HCS HVS qs3 qs19 qs20 qs21
            refine run_plain ?_
            first | refine op_pick_t rfl sn12 (hρ.const _) ?_ | refine op_pick_f rfl sn12 sn25 ?_
            exact detK.mk
           refine sure_det (js := [(26, 249)]) (ts := []) (gd := none) (place_at HVS.out (k := 27) rfl) (by rw [HCS.out]; kernel_rfl) ?_ ?_
           ·intro wx hx ρ hρ hs hf; have hρc := hρ.const; have hρf := hρ.func; obtain ⟨sn26, -⟩ := hs; rw [place_at HVS.out (k := 26) rfl] at sn26; replace sn26 : ρ (.tmp 249) = _ := sn26
            clear hf
            clear HCS HVS qs3 qs19 qs20 qs21
            refine run_plain ?_
            refine op_move rfl sn26 ?_
            exact detK.mk
           refine sure_det (js := [(27, 250)]) (ts := [21]) (gd := (some (250, false))) (place_at HVS.out (k := 28) rfl) (by rw [HCS.out]; kernel_rfl) ?_ ?_
           ·intro wx hx ρ hρ hs hf; have hρc := hρ.const; have hρf := hρ.func; obtain ⟨sn27, -⟩ := hs
            obtain ⟨fx21, -⟩ := hf; rw [qs21] at fx21; rw [place_at HVS.out (k := 27) rfl] at sn27; replace sn27 : ρ (.tmp 250) = _ := sn27
            clear HCS HVS qs3 qs19 qs20 qs21
            first
             | (refine run_passed sn27 ?_; exact detK.mk)
             | (refine run_guarded sn27 ?_; unfold runs; go_simp; exact detK.mk)
           refine sure_det (js := [(28, 251), (27, 250)]) (ts := []) (gd := (some (250, false))) (place_at HVS.out (k := 29) rfl) (by rw [HCS.out]; kernel_rfl) ?_ ?_
           ·intro wx hx ρ hρ hs hf; have hρc := hρ.const; have hρf := hρ.func; obtain ⟨sn28, sn27, -⟩ := hs; rw [place_at HVS.out (k := 28) rfl] at sn28; replace sn28 : ρ (.tmp 251) = _ := sn28; rw [place_at HVS.out (k := 27) rfl] at sn27; replace sn27 : ρ (.tmp 250) = _ := sn27
            clear hf
            clear HCS HVS qs3 qs19 qs20 qs21
            first
             | (refine run_passed sn27 ?_; exact detK.mk)
             | (refine run_guarded sn27 ?_; obtain ⟨p0, p1, p2, p3, p4, -⟩ := hX wx hx.drawn; unfold runs; go_simp; exact detK.mk)
           refine sure_det (js := [(29, 252), (27, 250)]) (ts := []) (gd := (some (250, false))) (place_at HVS.out (k := 30) rfl) (by rw [HCS.out]; kernel_rfl) ?_ ?_
           ·intro wx hx ρ hρ hs hf; have hρc := hρ.const; have hρf := hρ.func; obtain ⟨sn29, sn27, -⟩ := hs; rw [place_at HVS.out (k := 29) rfl] at sn29; replace sn29 : ρ (.tmp 252) = _ := sn29; rw [place_at HVS.out (k := 27) rfl] at sn27; replace sn27 : ρ (.tmp 250) = _ := sn27
            clear hf
            clear HCS HVS qs3 qs19 qs20 qs21
            first
             | (refine run_passed sn27 ?_; exact detK.mk)
             | (refine run_guarded sn27 ?_; have q1 := run_convert_bytesV (P := Try.prog) (BytesV.ext hvz hx.drawn) Try.underlying27 Try.underlying5 Try.underlying9; unfold runs; go_simp; exact detK.mk)
           refine sure_det (js := [(27, 250)]) (ts := [19]) (gd := (some (250, false))) (place_at HVS.out (k := 31) rfl) (by rw [HCS.out]; kernel_rfl) ?_ ?_
           ·intro wx hx ρ hρ hs hf; have hρc := hρ.const; have hρf := hρ.func; obtain ⟨sn27, -⟩ := hs
            obtain ⟨fx19, -⟩ := hf; rw [qs19] at fx19; rw [place_at HVS.out (k := 27) rfl] at sn27; replace sn27 : ρ (.tmp 250) = _ := sn27
            clear HCS HVS qs3 qs19 qs20 qs21
            first
             | (refine run_passed sn27 ?_; exact detK.mk)
             | (refine run_guarded sn27 ?_; refine op_move rfl fx19 ?_; exact detK.mk)
           refine sure_det (js := [(27, 250)]) (ts := [3]) (gd := (some (250, false))) (place_at HVS.out (k := 32) rfl) (by rw [HCS.out]; kernel_rfl) ?_ ?_
           ·intro wx hx ρ hρ hs hf; have hρc := hρ.const; have hρf := hρ.func; obtain ⟨sn27, -⟩ := hs
            obtain ⟨fx3, -⟩ := hf; rw [qs3] at fx3; rw [place_at HVS.out (k := 27) rfl] at sn27; replace sn27 : ρ (.tmp 250) = _ := sn27
            clear HCS HVS qs3 qs19 qs20 qs21
            first
             | (refine run_passed sn27 ?_; exact detK.mk)
             | (refine run_guarded sn27 ?_; unfold runs; go_simp; exact detK.mk)
           refine sure_det (js := [(32, 255), (31, 254), (27, 250)]) (ts := []) (gd := (some (250, false))) (place_at HVS.out (k := 33) rfl) (by rw [HCS.out]; kernel_rfl) ?_ ?_
           ·intro wx hx ρ hρ hs hf; have hρc := hρ.const; have hρf := hρ.func; obtain ⟨sn32, sn31, sn27, -⟩ := hs; rw [place_at HVS.out (k := 32) rfl] at sn32; replace sn32 : ρ (.tmp 255) = _ := sn32; rw [place_at HVS.out (k := 31) rfl] at sn31; replace sn31 : ρ (.tmp 254) = _ := sn31; rw [place_at HVS.out (k := 27) rfl] at sn27; replace sn27 : ρ (.tmp 250) = _ := sn27
            clear hf
            clear HCS HVS qs3 qs19 qs20 qs21
            first
             | (refine run_passed sn27 ?_; exact detK.mk)
             | (refine run_guarded sn27 ?_; unfold runs; go_simp; exact detK.mk)
           refine sure_det (js := [(33, 256), (27, 250)]) (ts := []) (gd := (some (250, false))) (place_at HVS.out (k := 34) rfl) (by rw [HCS.out]; kernel_rfl) ?_ ?_
           ·intro wx hx ρ hρ hs hf; have hρc := hρ.const; have hρf := hρ.func; obtain ⟨sn33, sn27, -⟩ := hs; rw [place_at HVS.out (k := 33) rfl] at sn33; replace sn33 : ρ (.tmp 256) = _ := sn33; rw [place_at HVS.out (k := 27) rfl] at sn27; replace sn27 : ρ (.tmp 250) = _ := sn27
            clear hf
            clear HCS HVS qs3 qs19 qs20 qs21
            first
             | (refine run_passed sn27 ?_; exact detK.mk)
             | (refine run_guarded sn27 ?_; obtain ⟨p0, p1, p2, p3, p4, -⟩ := hX wx hx.drawn; unfold runs; go_simp; exact detK.mk)
           refine sure_det (js := [(27, 250)]) (ts := [20]) (gd := (some (250, false))) (place_at HVS.out (k := 35) rfl) (by rw [HCS.out]; kernel_rfl) ?_ ?_
           ·intro wx hx ρ hρ hs hf; have hρc := hρ.const; have hρf := hρ.func; obtain ⟨sn27, -⟩ := hs
            obtain ⟨fx20, -⟩ := hf; rw [qs20] at fx20; rw [place_at HVS.out (k := 27) rfl] at sn27; replace sn27 : ρ (.tmp 250) = _ := sn27
            clear HCS HVS qs3 qs19 qs20 qs21
            first
             | (refine run_passed sn27 ?_; exact detK.mk)
             | (refine run_guarded sn27 ?_; refine op_move rfl fx20 ?_; exact detK.mk)
           refine sure_det (js := [(34, 257), (35, 258), (27, 250)]) (ts := []) (gd := (some (250, false))) (place_at HVS.out (k := 36) rfl) (by rw [HCS.out]; kernel_rfl) ?_ ?_
           ·intro wx hx ρ hρ hs hf; have hρc := hρ.const; have hρf := hρ.func; obtain ⟨sn34, sn35, sn27, -⟩ := hs; rw [place_at HVS.out (k := 34) rfl] at sn34; replace sn34 : ρ (.tmp 257) = _ := sn34; rw [place_at HVS.out (k := 35) rfl] at sn35; replace sn35 : ρ (.tmp 258) = _ := sn35; rw [place_at HVS.out (k := 27) rfl] at sn27; replace sn27 : ρ (.tmp 250) = _ := sn27
            clear hf
            clear HCS HVS qs3 qs19 qs20 qs21
            first
             | (refine run_passed sn27 ?_; exact detK.mk)
             | (refine run_guarded sn27 ?_; unfold runs; go_simp; exact detK.mk)
           refine sure_det (js := [(36, 259), (27, 250)]) (ts := []) (gd := (some (250, false))) (place_at HVS.out (k := 37) rfl) (by rw [HCS.out]; kernel_rfl) ?_ ?_
           ·intro wx hx ρ hρ hs hf; have hρc := hρ.const; have hρf := hρ.func; obtain ⟨sn36, sn27, -⟩ := hs; rw [place_at HVS.out (k := 36) rfl] at sn36; replace sn36 : ρ (.tmp 259) = _ := sn36; rw [place_at HVS.out (k := 27) rfl] at sn27; replace sn27 : ρ (.tmp 250) = _ := sn27
            clear hf
            clear HCS HVS qs3 qs19 qs20 qs21
            first
             | (refine run_passed sn27 ?_; exact detK.mk)
             | (refine run_guarded sn27 ?_; unfold runs; go_simp; exact detK.mk)
           refine sure_det (js := [(37, 260), (27, 250)]) (ts := []) (gd := (some (250, false))) (place_at HVS.out (k := 38) rfl) (by rw [HCS.out]; kernel_rfl) ?_ ?_
           ·intro wx hx ρ hρ hs hf; have hρc := hρ.const; have hρf := hρ.func; obtain ⟨sn37, sn27, -⟩ := hs; rw [place_at HVS.out (k := 37) rfl] at sn37; replace sn37 : ρ (.tmp 260) = _ := sn37; rw [place_at HVS.out (k := 27) rfl] at sn27; replace sn27 : ρ (.tmp 250) = _ := sn27
            clear hf
            clear HCS HVS qs3 qs19 qs20 qs21
            first
             | (refine run_passed sn27 ?_; exact detK.mk)
             | (refine run_guarded sn27 ?_; obtain ⟨p0, p1, p2, p3, p4, -⟩ := hX wx hx.drawn; unfold runs; go_simp; exact detK.mk)
           refine sure_det (js := [(27, 250)]) (ts := [21]) (gd := (some (250, false))) (place_at HVS.out (k := 39) rfl) (by rw [HCS.out]; kernel_rfl) ?_ ?_
           ·intro wx hx ρ hρ hs hf; have hρc := hρ.const; have hρf := hρ.func; obtain ⟨sn27, -⟩ := hs
            obtain ⟨fx21, -⟩ := hf; rw [qs21] at fx21; rw [place_at HVS.out (k := 27) rfl] at sn27; replace sn27 : ρ (.tmp 250) = _ := sn27
            clear HCS HVS qs3 qs19 qs20 qs21
            first
             | (refine run_passed sn27 ?_; exact detK.mk)
             | (refine run_guarded sn27 ?_; unfold runs; go_simp; exact detK.mk)
           refine sure_det (js := [(39, 262), (27, 250)]) (ts := []) (gd := (some (250, false))) (place_at HVS.out (k := 40) rfl) (by rw [HCS.out]; kernel_rfl) ?_ ?_
           ·intro wx hx ρ hρ hs hf; have hρc := hρ.const; have hρf := hρ.func; obtain ⟨sn39, sn27, -⟩ := hs; rw [place_at HVS.out (k := 39) rfl] at sn39; replace sn39 : ρ (.tmp 262) = _ := sn39; rw [place_at HVS.out (k := 27) rfl] at sn27; replace sn27 : ρ (.tmp 250) = _ := sn27
            clear hf
            clear HCS HVS qs3 qs19 qs20 qs21
            first
             | (refine run_passed sn27 ?_; exact detK.mk)
             | (refine run_guarded sn27 ?_; obtain ⟨p0, p1, p2, p3, p4, -⟩ := hX wx hx.drawn; unfold runs; go_simp; exact detK.mk)
           refine sure_det (js := [(40, 263), (27, 250)]) (ts := []) (gd := (some (250, false))) (place_at HVS.out (k := 41) rfl) (by rw [HCS.out]; kernel_rfl) ?_ ?_
           ·intro wx hx ρ hρ hs hf; have hρc := hρ.const; have hρf := hρ.func; obtain ⟨sn40, sn27, -⟩ := hs; rw [place_at HVS.out (k := 40) rfl] at sn40; replace sn40 : ρ (.tmp 263) = _ := sn40; rw [place_at HVS.out (k := 27) rfl] at sn27; replace sn27 : ρ (.tmp 250) = _ := sn27
            clear hf
            clear HCS HVS qs3 qs19 qs20 qs21
            first
             | (refine run_passed sn27 ?_; exact detK.mk)
             | (refine run_guarded sn27 ?_; unfold runs; go_simp; exact detK.mk)
           refine sure_det (js := [(38, 261), (41, 264), (27, 250)]) (ts := []) (gd := (some (250, false))) (place_at HVS.out (k := 42) rfl) (by rw [HCS.out]; kernel_rfl) ?_ ?_
           ·intro wx hx ρ hρ hs hf; have hρc := hρ.const; have hρf := hρ.func; obtain ⟨sn38, sn41, sn27, -⟩ := hs; rw [place_at HVS.out (k := 38) rfl] at sn38; replace sn38 : ρ (.tmp 261) = _ := sn38; rw [place_at HVS.out (k := 41) rfl] at sn41; replace sn41 : ρ (.tmp 264) = _ := sn41; rw [place_at HVS.out (k := 27) rfl] at sn27; replace sn27 : ρ (.tmp 250) = _ := sn27
            clear hf
            clear HCS HVS qs3 qs19 qs20 qs21
            first
             | (refine run_passed sn27 ?_; exact detK.mk)
             | (refine run_guarded sn27 ?_; unfold runs; go_simp; exact detK.mk)
           refine sure_det (js := [(42, 265), (27, 250)]) (ts := []) (gd := (some (250, false))) (place_at HVS.out (k := 43) rfl) (by rw [HCS.out]; kernel_rfl) ?_ ?_
           ·intro wx hx ρ hρ hs hf; have hρc := hρ.const; have hρf := hρ.func; obtain ⟨sn42, sn27, -⟩ := hs; rw [place_at HVS.out (k := 42) rfl] at sn42; replace sn42 : ρ (.tmp 265) = _ := sn42; rw [place_at HVS.out (k := 27) rfl] at sn27; replace sn27 : ρ (.tmp 250) = _ := sn27
            clear hf
            clear HCS HVS qs3 qs19 qs20 qs21
            first
             | (refine run_passed sn27 ?_; exact detK.mk)
             | (refine run_guarded sn27 ?_; have q1 := run_convert_bytesV (P := Try.prog) (hbu.ext hx.drawn) Try.underlying27 Try.underlying5 Try.underlying9; unfold runs; go_simp; exact detK.mk)
           refine sure_det (js := [(30, 253), (43, 266), (27, 250)]) (ts := []) (gd := (some (250, false))) (place_at HVS.out (k := 44) rfl) (by rw [HCS.out]; kernel_rfl) ?_ ?_
           ·intro wx hx ρ hρ hs hf; have hρc := hρ.const; have hρf := hρ.func; obtain ⟨sn30, sn43, sn27, -⟩ := hs; rw [place_at HVS.out (k := 30) rfl] at sn30; replace sn30 : ρ (.tmp 253) = _ := sn30; rw [place_at HVS.out (k := 43) rfl] at sn43; replace sn43 : ρ (.tmp 266) = _ := sn43; rw [place_at HVS.out (k := 27) rfl] at sn27; replace sn27 : ρ (.tmp 250) = _ := sn27
            clear hf
            clear HCS HVS qs3 qs19 qs20 qs21
            first
             | (refine run_passed sn27 ?_; exact detK.mk)
             | (refine run_guarded sn27 ?_; unfold runs; go_simp; exact detK.mk)
           refine sure_det (js := [(27, 250), (44, 267)]) (ts := []) (gd := none) (place_at HVS.out (k := 45) rfl) (by rw [HCS.out]; kernel_rfl) ?_ ?_
           ·intro wx hx ρ hρ hs hf; have hρc := hρ.const; have hρf := hρ.func; obtain ⟨sn27, sn44, -⟩ := hs; rw [place_at HVS.out (k := 27) rfl] at sn27; replace sn27 : ρ (.tmp 250) = _ := sn27; rw [place_at HVS.out (k := 44) rfl] at sn44; replace sn44 : ρ (.tmp 267) = _ := sn44
            clear hf
            clear HCS HVS qs3 qs19 qs20 qs21
            refine run_plain ?_
            first | refine op_pick_t rfl sn27 (hρ.const _) ?_ | refine op_pick_f rfl sn27 sn44 ?_
            exact detK.mk
           refine sure_det (js := [(45, 268)]) (ts := []) (gd := none) (place_at HVS.out (k := 46) rfl) (by rw [HCS.out]; kernel_rfl) ?_ ?_
           ·intro wx hx ρ hρ hs hf; have hρc := hρ.const; have hρf := hρ.func; obtain ⟨sn45, -⟩ := hs; rw [place_at HVS.out (k := 45) rfl] at sn45; replace sn45 : ρ (.tmp 268) = _ := sn45
            clear hf
            clear HCS HVS qs3 qs19 qs20 qs21
            refine run_plain ?_
            refine op_move rfl sn45 ?_
            exact detK.mk
           refine sure_det (js := [(46, 269)]) (ts := [21]) (gd := (some (269, false))) (place_at HVS.out (k := 47) rfl) (by rw [HCS.out]; kernel_rfl) ?_ ?_
           ·intro wx hx ρ hρ hs hf; have hρc := hρ.const; have hρf := hρ.func; obtain ⟨sn46, -⟩ := hs
            obtain ⟨fx21, -⟩ := hf; rw [qs21] at fx21; rw [place_at HVS.out (k := 46) rfl] at sn46; replace sn46 : ρ (.tmp 269) = _ := sn46
            clear HCS HVS qs3 qs19 qs20 qs21
            first
             | (refine run_passed sn46 ?_; exact detK.mk)
             | (refine run_guarded sn46 ?_; unfold runs; go_simp; exact detK.mk)
           refine sure_det (js := [(47, 270), (46, 269)]) (ts := []) (gd := (some (269, false))) (place_at HVS.out (k := 48) rfl) (by rw [HCS.out]; kernel_rfl) ?_ ?_
           ·intro wx hx ρ hρ hs hf; have hρc := hρ.const; have hρf := hρ.func; obtain ⟨sn47, sn46, -⟩ := hs; rw [place_at HVS.out (k := 47) rfl] at sn47; replace sn47 : ρ (.tmp 270) = _ := sn47; rw [place_at HVS.out (k := 46) rfl] at sn46; replace sn46 : ρ (.tmp 269) = _ := sn46
            clear hf
            clear HCS HVS qs3 qs19 qs20 qs21
            first
             | (refine run_passed sn46 ?_; exact detK.mk)
             | (refine run_guarded sn46 ?_; obtain ⟨p0, p1, p2, p3, p4, -⟩ := hX wx hx.drawn; unfold runs; go_simp; exact detK.mk)
           refine sure_det (js := [(46, 269)]) (ts := [21]) (gd := (some (269, false))) (place_at HVS.out (k := 49) rfl) (by rw [HCS.out]; kernel_rfl) ?_ ?_
           ·intro wx hx ρ hρ hs hf; have hρc := hρ.const; have hρf := hρ.func; obtain ⟨sn46, -⟩ := hs
            obtain ⟨fx21, -⟩ := hf; rw [qs21] at fx21; rw [place_at HVS.out (k := 46) rfl] at sn46; replace sn46 : ρ (.tmp 269) = _ := sn46
            clear HCS HVS qs3 qs19 qs20 qs21
            first
             | (refine run_passed sn46 ?_; exact detK.mk)
             | (refine run_guarded sn46 ?_; unfold runs; go_simp; exact detK.mk)
           refine sure_det (js := [(49, 272), (46, 269)]) (ts := []) (gd := (some (269, false))) (place_at HVS.out (k := 50) rfl) (by rw [HCS.out]; kernel_rfl) ?_ ?_
           ·intro wx hx ρ hρ hs hf; have hρc := hρ.const; have hρf := hρ.func; obtain ⟨sn49, sn46, -⟩ := hs; rw [place_at HVS.out (k := 49) rfl] at sn49; replace sn49 : ρ (.tmp 272) = _ := sn49; rw [place_at HVS.out (k := 46) rfl] at sn46; replace sn46 : ρ (.tmp 269) = _ := sn46
            clear hf
            clear HCS HVS qs3 qs19 qs20 qs21
            first
             | (refine run_passed sn46 ?_; exact detK.mk)
             | (refine run_guarded sn46 ?_; obtain ⟨p0, p1, p2, p3, p4, -⟩ := hX wx hx.drawn; unfold runs; go_simp; exact detK.mk)
           refine sure_det (js := [(50, 273), (46, 269)]) (ts := []) (gd := (some (269, false))) (place_at HVS.out (k := 51) rfl) (by rw [HCS.out]; kernel_rfl) ?_ ?_
           ·intro wx hx ρ hρ hs hf; have hρc := hρ.const; have hρf := hρ.func; obtain ⟨sn50, sn46, -⟩ := hs; rw [place_at HVS.out (k := 50) rfl] at sn50; replace sn50 : ρ (.tmp 273) = _ := sn50; rw [place_at HVS.out (k := 46) rfl] at sn46; replace sn46 : ρ (.tmp 269) = _ := sn46
            clear hf
            clear HCS HVS qs3 qs19 qs20 qs21
            first
             | (refine run_passed sn46 ?_; exact detK.mk)
             | (refine run_guarded sn46 ?_; unfold runs; go_simp; exact detK.mk)
           refine sure_det (js := [(48, 271), (51, 274), (46, 269)]) (ts := []) (gd := (some (269, false))) (place_at HVS.out (k := 52) rfl) (by rw [HCS.out]; kernel_rfl) ?_ ?_
           ·intro wx hx ρ hρ hs hf; have hρc := hρ.const; have hρf := hρ.func; obtain ⟨sn48, sn51, sn46, -⟩ := hs; rw [place_at HVS.out (k := 48) rfl] at sn48; replace sn48 : ρ (.tmp 271) = _ := sn48; rw [place_at HVS.out (k := 51) rfl] at sn51; replace sn51 : ρ (.tmp 274) = _ := sn51; rw [place_at HVS.out (k := 46) rfl] at sn46; replace sn46 : ρ (.tmp 269) = _ := sn46
            clear hf
            clear HCS HVS qs3 qs19 qs20 qs21
            first
             | (refine run_passed sn46 ?_; exact detK.mk)
             | (refine run_guarded sn46 ?_; unfold runs; go_simp; exact detK.mk)
           refine sure_det (js := [(46, 269), (52, 275)]) (ts := []) (gd := none) (place_at HVS.out (k := 53) rfl) (by rw [HCS.out]; kernel_rfl) ?_ ?_
           ·intro wx hx ρ hρ hs hf; have hρc := hρ.const; have hρf := hρ.func; obtain ⟨sn46, sn52, -⟩ := hs; rw [place_at HVS.out (k := 46) rfl] at sn46; replace sn46 : ρ (.tmp 269) = _ := sn46; rw [place_at HVS.out (k := 52) rfl] at sn52; replace sn52 : ρ (.tmp 275) = _ := sn52
            clear hf
            clear HCS HVS qs3 qs19 qs20 qs21
            refine run_plain ?_
            first | refine op_pick_t rfl sn46 (hρ.const _) ?_ | refine op_pick_f rfl sn46 sn52 ?_
            exact detK.mk
           exact trivial
          case hend =>
           intro xs wx hx hg
           have gk0 : xs 0 = _ := goods_get hg (i := 0) (j := 0) (d := 223) rfl
           have gk1 : xs 1 = _ := goods_get hg (i := 1) (j := 1) (d := 224) rfl
           have gk2 : xs 2 = _ := goods_get hg (i := 2) (j := 2) (d := 225) rfl
           have gk3 : xs 3 = _ := goods_get hg (i := 3) (j := 3) (d := 226) rfl
           have gk4 : xs 4 = _ := goods_get hg (i := 4) (j := 4) (d := 227) rfl
           have gk5 : xs 5 = _ := goods_get hg (i := 5) (j := 5) (d := 228) rfl
           have gk6 : xs 6 = _ := goods_get hg (i := 6) (j := 6) (d := 229) rfl
           have gk7 : xs 7 = _ := goods_get hg (i := 7) (j := 7) (d := 230) rfl
           have gk8 : xs 8 = _ := goods_get hg (i := 8) (j := 8) (d := 231) rfl
           have gk9 : xs 9 = _ := goods_get hg (i := 9) (j := 9) (d := 232) rfl
           have gk10 : xs 10 = _ := goods_get hg (i := 10) (j := 10) (d := 233) rfl
           have gk11 : xs 11 = _ := goods_get hg (i := 11) (j := 11) (d := 234) rfl
           have gk12 : xs 12 = _ := goods_get hg (i := 12) (j := 12) (d := 235) rfl
           have gk13 : xs 13 = _ := goods_get hg (i := 13) (j := 13) (d := 236) rfl
           have gk14 : xs 14 = _ := goods_get hg (i := 14) (j := 14) (d := 237) rfl
           have gk15 : xs 15 = _ := goods_get hg (i := 15) (j := 15) (d := 238) rfl
           have gk16 : xs 16 = _ := goods_get hg (i := 16) (j := 16) (d := 239) rfl
           have gk17 : xs 17 = _ := goods_get hg (i := 17) (j := 17) (d := 240) rfl
           have gk18 : xs 18 = _ := goods_get hg (i := 18) (j := 18) (d := 241) rfl
           have gk19 : xs 19 = _ := goods_get hg (i := 19) (j := 19) (d := 242) rfl
           have gk20 : xs 20 = _ := goods_get hg (i := 20) (j := 20) (d := 243) rfl
           have gk21 : xs 21 = _ := goods_get hg (i := 21) (j := 21) (d := 244) rfl
           have gk22 : xs 22 = _ := goods_get hg (i := 22) (j := 22) (d := 245) rfl
           have gk23 : xs 23 = _ := goods_get hg (i := 23) (j := 23) (d := 246) rfl
           have gk24 : xs 24 = _ := goods_get hg (i := 24) (j := 24) (d := 247) rfl
           have gk25 : xs 25 = _ := goods_get hg (i := 25) (j := 25) (d := 248) rfl
           have gk26 : xs 26 = _ := goods_get hg (i := 26) (j := 26) (d := 249) rfl
           have gk27 : xs 27 = _ := goods_get hg (i := 27) (j := 27) (d := 250) rfl
           have gk28 : xs 28 = _ := goods_get hg (i := 28) (j := 28) (d := 251) rfl
           have gk29 : xs 29 = _ := goods_get hg (i := 29) (j := 29) (d := 252) rfl
           have gk30 : xs 30 = _ := goods_get hg (i := 30) (j := 30) (d := 253) rfl
           have gk31 : xs 31 = _ := goods_get hg (i := 31) (j := 31) (d := 254) rfl
           have gk32 : xs 32 = _ := goods_get hg (i := 32) (j := 32) (d := 255) rfl
           have gk33 : xs 33 = _ := goods_get hg (i := 33) (j := 33) (d := 256) rfl
           have gk34 : xs 34 = _ := goods_get hg (i := 34) (j := 34) (d := 257) rfl
           have gk35 : xs 35 = _ := goods_get hg (i := 35) (j := 35) (d := 258) rfl
           have gk36 : xs 36 = _ := goods_get hg (i := 36) (j := 36) (d := 259) rfl
           have gk37 : xs 37 = _ := goods_get hg (i := 37) (j := 37) (d := 260) rfl
           have gk38 : xs 38 = _ := goods_get hg (i := 38) (j := 38) (d := 261) rfl
           have gk39 : xs 39 = _ := goods_get hg (i := 39) (j := 39) (d := 262) rfl
           have gk40 : xs 40 = _ := goods_get hg (i := 40) (j := 40) (d := 263) rfl
           have gk41 : xs 41 = _ := goods_get hg (i := 41) (j := 41) (d := 264) rfl
           have gk42 : xs 42 = _ := goods_get hg (i := 42) (j := 42) (d := 265) rfl
           have gk43 : xs 43 = _ := goods_get hg (i := 43) (j := 43) (d := 266) rfl
           have gk44 : xs 44 = _ := goods_get hg (i := 44) (j := 44) (d := 267) rfl
           have gk45 : xs 45 = _ := goods_get hg (i := 45) (j := 45) (d := 268) rfl
           have gk46 : xs 46 = _ := goods_get hg (i := 46) (j := 46) (d := 269) rfl
           have gk47 : xs 47 = _ := goods_get hg (i := 47) (j := 47) (d := 270) rfl
           have gk48 : xs 48 = _ := goods_get hg (i := 48) (j := 48) (d := 271) rfl
           have gk49 : xs 49 = _ := goods_get hg (i := 49) (j := 49) (d := 272) rfl
           have gk50 : xs 50 = _ := goods_get hg (i := 50) (j := 50) (d := 273) rfl
           have gk51 : xs 51 = _ := goods_get hg (i := 51) (j := 51) (d := 274) rfl
           have gk52 : xs 52 = _ := goods_get hg (i := 52) (j := 52) (d := 275) rfl
           have gk53 : xs 53 = _ := goods_get hg (i := 53) (j := 53) (d := 276) rfl
           clear hg
           simp only [putAll, gk0, gk1, gk2, gk3, gk4, gk5, gk6, gk7, gk8, gk9, gk10, gk11, gk12, gk13, gk14, gk15, gk16, gk17, gk18, gk19, gk20, gk21, gk22, gk23, gk24, gk25, gk26, gk27, gk28, gk29, gk30, gk31, gk32, gk33, gk34, gk35, gk36, gk37, gk38, gk39, gk40, gk41, gk42, gk43, gk44, gk45, gk46, gk47, gk48, gk49, gk50, gk51, gk52, gk53]
           clear gk0 gk1 gk2 gk3 gk4 gk5 gk6 gk7 gk8 gk9 gk10 gk11 gk12 gk13 gk14 gk15 gk16 gk17 gk18 gk19 gk20 gk21 gk22 gk23 gk24 gk25 gk26 gk27 gk28 gk29 gk30 gk31 gk32 gk33 gk34 gk35 gk36 gk37 gk38 gk39 gk40 gk41 gk42 gk43 gk44 gk45 gk46 gk47 gk48 gk49 gk50 gk51 gk52 gk53
           clear xs
           simp only [Act.put, List.setIfInBounds_toArray, List.set_cons_zero, List.set_cons_succ]
           go_wp2
           go_roundw
           case rel => exact ⟨j + 1, by omega, by go_num, hxz.trans hx.drawn⟩
           case measure => simp [intOf]; omega
       ·obtain rfl : j = n1 := by omega
        have hini : ¬ (j : Int) < (j : Int) := by omega
        go_wp2
        go_roundw
        case rel => exact ⟨hxr, .inr (.inl (by go_num))⟩
        case measure => simp [intOf]
     ·go_wp2
      go_loopw [20] (fun y wr => ∃ j : Nat, j ≤ n1 ∧ y = .int .i64 j ∧ Ext Wb wr) (fun y _ => n1 - (intOf y).toNat)
      case atStart => exact ⟨0, Nat.zero_le _, rfl, hxo⟩
      case round =>
       obtain ⟨j, hj, rfl, hxr⟩ := hrel
       have a1 : wr.cell? ⟨ga, 1, none⟩ = some (.slice (some aA) n1 c0) := hxr.cell (by simp [World.cell?, hda])
       rcases Nat.lt_or_ge j n1 with hjn | hjn
       ·have hini : (j : Int) < (n1 : Int) := by omega
        have hsx : l1[j]? = some (l1[j]'(by omega)) := List.getElem?_eq_getElem _
        have hum : l1[j]'(by omega) ∈ l1 := List.getElem_mem _
        generalize (l1[j]'(by omega)) = u at *
        have hcu := hcut1.2 j u hsx
        rw [if_pos hjn] at hcu
        generalize (ms.drop n1).getD j 0 = z at hcu
        obtain ⟨hu0, hu1⟩ := rightB_spec (hR1 u hum).1
        obtain ⟨aC, rfl, v0, v1, vok⟩ := hC1.at hcu
        obtain ⟨ax, rfl, u0, u1, uok⟩ := (h1.ext hW).at hsx
        have hX : ∀ wx, Ext wr wx → wx.cell? ⟨ga, 2, none⟩ = some (.slice (some ax) n1 c1) ∧ wx.cell? ⟨gq, 2, none⟩ = some (.slice (some ax) n1 c1) ∧ wx.cell? (ax.add (j * 2)) = some (.slice u.D u.q u.cd) ∧ wx.cell? ⟨(ax.add (j * 2)).block, (ax.add (j * 2)).off + 1, none⟩ = some (.int .i64 u.k) ∧ Ext Wb wx := fun wx hx =>
         ⟨(hxr.trans hx).cell (by simp [World.cell?, hda]), (hxr.trans hx).cell (by simp [World.cell?, hdq]), (hxr.trans hx).cell u0, (hxr.trans hx).cell u1, hxr.trans hx⟩
        have hsame := fun wx (h : Ext Wb wx) => same_yes u.D u.D u.q u.cd u.cd u.k u.d wx (StOK.ext uok h) (StOK.ext uok h)
        go_upto_region 26 with (fail)
        refine' wp_region_sure_all ⟨((some 190, [], none) :: (some 191, [], none) :: (some 192, [0, 1], none) :: (some 193, [2], none) :: (some 194, [3], some (3, false)) :: (some 195, [3], some (3, false)) :: (some 196, [4, 5, 3], some (3, false)) :: (some 197, [3, 6], none) :: (some 198, [7, 3], none) :: (some 199, [8], some (8, true)) :: (some 200, [8], some (8, true)) :: (some 201, [10, 9, 8], some (8, true)) :: (some 202, [11, 8], some (8, true)) :: (some 203, [8], some (8, true)) :: (some 204, [12, 13, 8], some (8, true)) :: (some 205, [14, 8], some (8, true)) :: (some 206, [8], some (8, true)) :: (some 207, [8], some (8, true)) :: (some 208, [17, 16, 8], some (8, true)) :: (some 209, [18, 8], some (8, true)) :: (some 210, [8], some (8, true)) :: (some 211, [19, 20, 8], some (8, true)) :: (some 212, [21, 8], some (8, true)) :: (some 213, [15, 22, 8, 8], some (8, true)) :: (some 214, [23, 8], some (8, true)) :: (some 215, [8, 24], none) :: []), (0 :: 0 :: 3 :: 7 :: 15 :: 15 :: 63 :: 127 :: 255 :: 511 :: 511 :: 2047 :: 4095 :: 511 :: 16383 :: 32767 :: 511 :: 511 :: 197119 :: 459263 :: 511 :: 2032127 :: 4129279 :: 8388607 :: 16777215 :: 33554431 :: []), (true :: true :: true :: true :: true :: true :: true :: true :: true :: true :: true :: true :: true :: true :: true :: true :: true :: true :: true :: true :: true :: true :: true :: true :: true :: true :: []), [], 0⟩ 26 318 ((0, 190) :: (1, 191) :: (2, 192) :: (3, 193) :: (4, 194) :: (5, 195) :: (6, 196) :: (7, 197) :: (8, 198) :: (9, 199) :: (10, 200) :: (11, 201) :: (12, 202) :: (13, 203) :: (14, 204) :: (15, 205) :: (16, 206) :: (17, 207) :: (18, 208) :: (19, 209) :: (20, 210) :: (21, 211) :: (22, 212) :: (23, 213) :: (24, 214) :: (25, 215) :: []) ((0, 190) :: (1, 191) :: (2, 192) :: (3, 193) :: (4, 194) :: (5, 195) :: (6, 196) :: (7, 197) :: (8, 198) :: (9, 199) :: (10, 200) :: (11, 201) :: (12, 202) :: (13, 203) :: (14, 204) :: (15, 205) :: (16, 206) :: (17, 207) :: (18, 208) :: (19, 209) :: (20, 210) :: (21, 211) :: (22, 212) :: (23, 213) :: (24, 214) :: (25, 215) :: []) (.det _ :: .det _ :: .det _ :: .det _ :: .det _ :: .det _ :: .det _ :: .det _ :: .det _ :: .det _ :: .det _ :: .det _ :: .det _ :: .det _ :: .det _ :: .det _ :: .det _ :: .det _ :: .det _ :: .det _ :: .det _ :: .det _ :: .det _ :: .det _ :: .det _ :: .det _ :: []) (by kernel_rfl) (by kernel_rfl) (by kernel_rfl) rfl (by kernel_rfl) (by kernel_rfl) rfl (by kernel_rfl) ?hone ?hend
        case hone =>
         intro CS frS VS hCS ha hV
         have qs3 := slot_val (t := 3) ha rfl
         simp only [List.getElem_toArray, List.getElem_cons_succ, List.getElem_cons_zero] at qs3
         have qs10 := slot_val (t := 10) ha rfl
         simp only [List.getElem_toArray, List.getElem_cons_succ, List.getElem_cons_zero] at qs10
         have qs11 := slot_val (t := 11) ha rfl
         simp only [List.getElem_toArray, List.getElem_cons_succ, List.getElem_cons_zero] at qs11
         have qs14 := slot_val (t := 14) ha rfl
         simp only [List.getElem_toArray, List.getElem_cons_succ, List.getElem_cons_zero] at qs14
         have qs19 := slot_val (t := 19) ha rfl
         simp only [List.getElem_toArray, List.getElem_cons_succ, List.getElem_cons_zero] at qs19
         have qs20 := slot_val (t := 20) ha rfl
         simp only [List.getElem_toArray, List.getElem_cons_succ, List.getElem_cons_zero] at qs20
         have HCS := Lib.hid hCS
         have HVS := Lib.hid hV
         clear ha hCS hV
         refine sure_det (js := []) (ts := [19]) (gd := none) (place_at HVS.out (k := 0) rfl) (by rw [HCS.out]; kernel_rfl) ?_ ?_
         ·intro wx hx ρ hρ hs hf; have hρc := hρ.const; have hρf := hρ.func
          obtain ⟨fx19, -⟩ := hf; rw [qs19] at fx19
          clear hs
          clear HCS HVS qs3 qs10 qs11 qs14 qs19 qs20
          refine run_plain ?_
          refine op_move rfl fx19 ?_
          exact detK.mk
         refine sure_det (js := []) (ts := [10]) (gd := none) (place_at HVS.out (k := 1) rfl) (by rw [HCS.out]; kernel_rfl) ?_ ?_
         ·intro wx hx ρ hρ hs hf; have hρc := hρ.const; have hρf := hρ.func
          obtain ⟨fx10, -⟩ := hf; rw [qs10] at fx10
          clear hs
          clear HCS HVS qs3 qs10 qs11 qs14 qs19 qs20
          refine run_plain ?_
          refine op_move rfl fx10 ?_
          exact detK.mk
         refine sure_det (js := [(0, 190), (1, 191)]) (ts := []) (gd := none) (place_at HVS.out (k := 2) rfl) (by rw [HCS.out]; kernel_rfl) ?_ ?_
         ·intro wx hx ρ hρ hs hf; have hρc := hρ.const; have hρf := hρ.func; obtain ⟨sn0, sn1, -⟩ := hs; rw [place_at HVS.out (k := 0) rfl] at sn0; replace sn0 : ρ (.tmp 190) = _ := sn0; rw [place_at HVS.out (k := 1) rfl] at sn1; replace sn1 : ρ (.tmp 191) = _ := sn1
          clear hf
          clear HCS HVS qs3 qs10 qs11 qs14 qs19 qs20
          refine run_plain ?_
          unfold runs
          go_simp
          exact detK.mk
         refine sure_det (js := [(2, 192)]) (ts := []) (gd := none) (place_at HVS.out (k := 3) rfl) (by rw [HCS.out]; kernel_rfl) ?_ ?_
         ·intro wx hx ρ hρ hs hf; have hρc := hρ.const; have hρf := hρ.func; obtain ⟨sn2, -⟩ := hs; rw [place_at HVS.out (k := 2) rfl] at sn2; replace sn2 : ρ (.tmp 192) = _ := sn2
          clear hf
          clear HCS HVS qs3 qs10 qs11 qs14 qs19 qs20
          refine run_plain ?_
          refine op_move rfl sn2 ?_
          exact detK.mk
         refine sure_det (js := [(3, 193)]) (ts := [20]) (gd := (some (193, false))) (place_at HVS.out (k := 4) rfl) (by rw [HCS.out]; kernel_rfl) ?_ ?_
         ·intro wx hx ρ hρ hs hf; have hρc := hρ.const; have hρf := hρ.func; obtain ⟨sn3, -⟩ := hs
          obtain ⟨fx20, -⟩ := hf; rw [qs20] at fx20; rw [place_at HVS.out (k := 3) rfl] at sn3; replace sn3 : ρ (.tmp 193) = _ := sn3
          clear HCS HVS qs3 qs10 qs11 qs14 qs19 qs20
          first
           | (refine run_passed sn3 ?_; exact detK.mk)
           | (refine run_guarded sn3 ?_; refine op_move rfl fx20 ?_; exact detK.mk)
         refine sure_det (js := [(3, 193)]) (ts := [11]) (gd := (some (193, false))) (place_at HVS.out (k := 5) rfl) (by rw [HCS.out]; kernel_rfl) ?_ ?_
         ·intro wx hx ρ hρ hs hf; have hρc := hρ.const; have hρf := hρ.func; obtain ⟨sn3, -⟩ := hs
          obtain ⟨fx11, -⟩ := hf; rw [qs11] at fx11; rw [place_at HVS.out (k := 3) rfl] at sn3; replace sn3 : ρ (.tmp 193) = _ := sn3
          clear HCS HVS qs3 qs10 qs11 qs14 qs19 qs20
          first
           | (refine run_passed sn3 ?_; exact detK.mk)
           | (refine run_guarded sn3 ?_; refine op_move rfl fx11 ?_; exact detK.mk)
         refine sure_det (js := [(4, 194), (5, 195), (3, 193)]) (ts := []) (gd := (some (193, false))) (place_at HVS.out (k := 6) rfl) (by rw [HCS.out]; kernel_rfl) ?_ ?_
         ·intro wx hx ρ hρ hs hf; have hρc := hρ.const; have hρf := hρ.func; obtain ⟨sn4, sn5, sn3, -⟩ := hs; rw [place_at HVS.out (k := 4) rfl] at sn4; replace sn4 : ρ (.tmp 194) = _ := sn4; rw [place_at HVS.out (k := 5) rfl] at sn5; replace sn5 : ρ (.tmp 195) = _ := sn5; rw [place_at HVS.out (k := 3) rfl] at sn3; replace sn3 : ρ (.tmp 193) = _ := sn3
          clear hf
          clear HCS HVS qs3 qs10 qs11 qs14 qs19 qs20
          first
           | (refine run_passed sn3 ?_; exact detK.mk)
           | (refine run_guarded sn3 ?_; unfold runs; go_simp; exact detK.mk)
         refine sure_det (js := [(3, 193), (6, 196)]) (ts := []) (gd := none) (place_at HVS.out (k := 7) rfl) (by rw [HCS.out]; kernel_rfl) ?_ ?_
         ·intro wx hx ρ hρ hs hf; have hρc := hρ.const; have hρf := hρ.func; obtain ⟨sn3, sn6, -⟩ := hs; rw [place_at HVS.out (k := 3) rfl] at sn3; replace sn3 : ρ (.tmp 193) = _ := sn3; rw [place_at HVS.out (k := 6) rfl] at sn6; replace sn6 : ρ (.tmp 196) = _ := sn6
          clear hf
          clear HCS HVS qs3 qs10 qs11 qs14 qs19 qs20
          refine run_plain ?_
          first | refine op_pick_t rfl sn3 (hρ.const _) ?_ | refine op_pick_f rfl sn3 sn6 ?_
          exact detK.mk
         refine sure_det (js := [(7, 197)]) (ts := []) (gd := none) (place_at HVS.out (k := 8) rfl) (by rw [HCS.out]; kernel_rfl) ?_ ?_
         ·intro wx hx ρ hρ hs hf; have hρc := hρ.const; have hρf := hρ.func; obtain ⟨sn7, -⟩ := hs; rw [place_at HVS.out (k := 7) rfl] at sn7; replace sn7 : ρ (.tmp 197) = _ := sn7
          clear hf
          clear HCS HVS qs3 qs10 qs11 qs14 qs19 qs20
          refine run_plain ?_
          refine op_move rfl sn7 ?_
          exact detK.mk
         refine sure_det (js := [(8, 198)]) (ts := [19]) (gd := (some (198, true))) (place_at HVS.out (k := 9) rfl) (by rw [HCS.out]; kernel_rfl) ?_ ?_
         ·intro wx hx ρ hρ hs hf; have hρc := hρ.const; have hρf := hρ.func; obtain ⟨sn8, -⟩ := hs
          obtain ⟨fx19, -⟩ := hf; rw [qs19] at fx19; rw [place_at HVS.out (k := 8) rfl] at sn8; replace sn8 : ρ (.tmp 198) = _ := sn8
          clear HCS HVS qs3 qs10 qs11 qs14 qs19 qs20
          first
           | (refine run_passed sn8 ?_; exact detK.mk)
           | (refine run_guarded sn8 ?_; refine op_move rfl fx19 ?_; exact detK.mk)
         refine sure_det (js := [(8, 198)]) (ts := [14]) (gd := (some (198, true))) (place_at HVS.out (k := 10) rfl) (by rw [HCS.out]; kernel_rfl) ?_ ?_
         ·intro wx hx ρ hρ hs hf; have hρc := hρ.const; have hρf := hρ.func; obtain ⟨sn8, -⟩ := hs
          obtain ⟨fx14, -⟩ := hf; rw [qs14] at fx14; rw [place_at HVS.out (k := 8) rfl] at sn8; replace sn8 : ρ (.tmp 198) = _ := sn8
          clear HCS HVS qs3 qs10 qs11 qs14 qs19 qs20
          first
           | (refine run_passed sn8 ?_; exact detK.mk)
           | (refine run_guarded sn8 ?_; unfold runs; go_simp; exact detK.mk)
         refine sure_det (js := [(10, 200), (9, 199), (8, 198)]) (ts := []) (gd := (some (198, true))) (place_at HVS.out (k := 11) rfl) (by rw [HCS.out]; kernel_rfl) ?_ ?_
         ·intro wx hx ρ hρ hs hf; have hρc := hρ.const; have hρf := hρ.func; obtain ⟨sn10, sn9, sn8, -⟩ := hs; rw [place_at HVS.out (k := 10) rfl] at sn10; replace sn10 : ρ (.tmp 200) = _ := sn10; rw [place_at HVS.out (k := 9) rfl] at sn9; replace sn9 : ρ (.tmp 199) = _ := sn9; rw [place_at HVS.out (k := 8) rfl] at sn8; replace sn8 : ρ (.tmp 198) = _ := sn8
          clear hf
          clear HCS HVS qs3 qs10 qs11 qs14 qs19 qs20
          first
           | (refine run_passed sn8 ?_; exact detK.mk)
           | (refine run_guarded sn8 ?_; unfold runs; go_simp; exact detK.mk)
         refine sure_det (js := [(11, 201), (8, 198)]) (ts := []) (gd := (some (198, true))) (place_at HVS.out (k := 12) rfl) (by rw [HCS.out]; kernel_rfl) ?_ ?_
         ·intro wx hx ρ hρ hs hf; have hρc := hρ.const; have hρf := hρ.func; obtain ⟨sn11, sn8, -⟩ := hs; rw [place_at HVS.out (k := 11) rfl] at sn11; replace sn11 : ρ (.tmp 201) = _ := sn11; rw [place_at HVS.out (k := 8) rfl] at sn8; replace sn8 : ρ (.tmp 198) = _ := sn8
          clear hf
          clear HCS HVS qs3 qs10 qs11 qs14 qs19 qs20
          first
           | (refine run_passed sn8 ?_; exact detK.mk)
           | (refine run_guarded sn8 ?_; obtain ⟨p0, p1, p2, p3, -⟩ := hX wx hx.drawn; unfold runs; go_simp; exact detK.mk)
         refine sure_det (js := [(8, 198)]) (ts := [20]) (gd := (some (198, true))) (place_at HVS.out (k := 13) rfl) (by rw [HCS.out]; kernel_rfl) ?_ ?_
         ·intro wx hx ρ hρ hs hf; have hρc := hρ.const; have hρf := hρ.func; obtain ⟨sn8, -⟩ := hs
          obtain ⟨fx20, -⟩ := hf; rw [qs20] at fx20; rw [place_at HVS.out (k := 8) rfl] at sn8; replace sn8 : ρ (.tmp 198) = _ := sn8
          clear HCS HVS qs3 qs10 qs11 qs14 qs19 qs20
          first
           | (refine run_passed sn8 ?_; exact detK.mk)
           | (refine run_guarded sn8 ?_; refine op_move rfl fx20 ?_; exact detK.mk)
         refine sure_det (js := [(12, 202), (13, 203), (8, 198)]) (ts := []) (gd := (some (198, true))) (place_at HVS.out (k := 14) rfl) (by rw [HCS.out]; kernel_rfl) ?_ ?_
         ·intro wx hx ρ hρ hs hf; have hρc := hρ.const; have hρf := hρ.func; obtain ⟨sn12, sn13, sn8, -⟩ := hs; rw [place_at HVS.out (k := 12) rfl] at sn12; replace sn12 : ρ (.tmp 202) = _ := sn12; rw [place_at HVS.out (k := 13) rfl] at sn13; replace sn13 : ρ (.tmp 203) = _ := sn13; rw [place_at HVS.out (k := 8) rfl] at sn8; replace sn8 : ρ (.tmp 198) = _ := sn8
          clear hf
          clear HCS HVS qs3 qs10 qs11 qs14 qs19 qs20
          first
           | (refine run_passed sn8 ?_; exact detK.mk)
           | (refine run_guarded sn8 ?_; unfold runs; go_simp; exact detK.mk)
         refine sure_det (js := [(14, 204), (8, 198)]) (ts := []) (gd := (some (198, true))) (place_at HVS.out (k := 15) rfl) (by rw [HCS.out]; kernel_rfl) ?_ ?_
         ·intro wx hx ρ hρ hs hf; have hρc := hρ.const; have hρf := hρ.func; obtain ⟨sn14, sn8, -⟩ := hs; rw [place_at HVS.out (k := 14) rfl] at sn14; replace sn14 : ρ (.tmp 204) = _ := sn14; rw [place_at HVS.out (k := 8) rfl] at sn8; replace sn8 : ρ (.tmp 198) = _ := sn8
          clear hf
          clear HCS HVS qs3 qs10 qs11 qs14 qs19 qs20
          first
           | (refine run_passed sn8 ?_; exact detK.mk)
           | (refine run_guarded sn8 ?_; obtain ⟨p0, p1, p2, p3, -⟩ := hX wx hx.drawn; unfold runs; go_simp; exact detK.mk)
         refine sure_det (js := [(8, 198)]) (ts := [19]) (gd := (some (198, true))) (place_at HVS.out (k := 16) rfl) (by rw [HCS.out]; kernel_rfl) ?_ ?_
         ·intro wx hx ρ hρ hs hf; have hρc := hρ.const; have hρf := hρ.func; obtain ⟨sn8, -⟩ := hs
          obtain ⟨fx19, -⟩ := hf; rw [qs19] at fx19; rw [place_at HVS.out (k := 8) rfl] at sn8; replace sn8 : ρ (.tmp 198) = _ := sn8
          clear HCS HVS qs3 qs10 qs11 qs14 qs19 qs20
          first
           | (refine run_passed sn8 ?_; exact detK.mk)
           | (refine run_guarded sn8 ?_; refine op_move rfl fx19 ?_; exact detK.mk)
         refine sure_det (js := [(8, 198)]) (ts := [3]) (gd := (some (198, true))) (place_at HVS.out (k := 17) rfl) (by rw [HCS.out]; kernel_rfl) ?_ ?_
         ·intro wx hx ρ hρ hs hf; have hρc := hρ.const; have hρf := hρ.func; obtain ⟨sn8, -⟩ := hs
          obtain ⟨fx3, -⟩ := hf; rw [qs3] at fx3; rw [place_at HVS.out (k := 8) rfl] at sn8; replace sn8 : ρ (.tmp 198) = _ := sn8
          clear HCS HVS qs3 qs10 qs11 qs14 qs19 qs20
          first
           | (refine run_passed sn8 ?_; exact detK.mk)
           | (refine run_guarded sn8 ?_; unfold runs; go_simp; exact detK.mk)
         refine sure_det (js := [(17, 207), (16, 206), (8, 198)]) (ts := []) (gd := (some (198, true))) (place_at HVS.out (k := 18) rfl) (by rw [HCS.out]; kernel_rfl) ?_ ?_
         ·intro wx hx ρ hρ hs hf; have hρc := hρ.const; have hρf := hρ.func; obtain ⟨sn17, sn16, sn8, -⟩ := hs; rw [place_at HVS.out (k := 17) rfl] at sn17; replace sn17 : ρ (.tmp 207) = _ := sn17; rw [place_at HVS.out (k := 16) rfl] at sn16; replace sn16 : ρ (.tmp 206) = _ := sn16; rw [place_at HVS.out (k := 8) rfl] at sn8; replace sn8 : ρ (.tmp 198) = _ := sn8
          clear hf
          clear HCS HVS qs3 qs10 qs11 qs14 qs19 qs20
          first
           | (refine run_passed sn8 ?_; exact detK.mk)
           | (refine run_guarded sn8 ?_; unfold runs; go_simp; exact detK.mk)
         refine sure_det (js := [(18, 208), (8, 198)]) (ts := []) (gd := (some (198, true))) (place_at HVS.out (k := 19) rfl) (by rw [HCS.out]; kernel_rfl) ?_ ?_
         ·intro wx hx ρ hρ hs hf; have hρc := hρ.const; have hρf := hρ.func; obtain ⟨sn18, sn8, -⟩ := hs; rw [place_at HVS.out (k := 18) rfl] at sn18; replace sn18 : ρ (.tmp 208) = _ := sn18; rw [place_at HVS.out (k := 8) rfl] at sn8; replace sn8 : ρ (.tmp 198) = _ := sn8
          clear hf
          clear HCS HVS qs3 qs10 qs11 qs14 qs19 qs20
          first
           | (refine run_passed sn8 ?_; exact detK.mk)
           | (refine run_guarded sn8 ?_; obtain ⟨p0, p1, p2, p3, -⟩ := hX wx hx.drawn; unfold runs; go_simp; exact detK.mk)
         refine sure_det (js := [(8, 198)]) (ts := [20]) (gd := (some (198, true))) (place_at HVS.out (k := 20) rfl) (by rw [HCS.out]; kernel_rfl) ?_ ?_
         ·intro wx hx ρ hρ hs hf; have hρc := hρ.const; have hρf := hρ.func; obtain ⟨sn8, -⟩ := hs
          obtain ⟨fx20, -⟩ := hf; rw [qs20] at fx20; rw [place_at HVS.out (k := 8) rfl] at sn8; replace sn8 : ρ (.tmp 198) = _ := sn8
          clear HCS HVS qs3 qs10 qs11 qs14 qs19 qs20
          first
           | (refine run_passed sn8 ?_; exact detK.mk)
           | (refine run_guarded sn8 ?_; refine op_move rfl fx20 ?_; exact detK.mk)
         refine sure_det (js := [(19, 209), (20, 210), (8, 198)]) (ts := []) (gd := (some (198, true))) (place_at HVS.out (k := 21) rfl) (by rw [HCS.out]; kernel_rfl) ?_ ?_
         ·intro wx hx ρ hρ hs hf; have hρc := hρ.const; have hρf := hρ.func; obtain ⟨sn19, sn20, sn8, -⟩ := hs; rw [place_at HVS.out (k := 19) rfl] at sn19; replace sn19 : ρ (.tmp 209) = _ := sn19; rw [place_at HVS.out (k := 20) rfl] at sn20; replace sn20 : ρ (.tmp 210) = _ := sn20; rw [place_at HVS.out (k := 8) rfl] at sn8; replace sn8 : ρ (.tmp 198) = _ := sn8
          clear hf
          clear HCS HVS qs3 qs10 qs11 qs14 qs19 qs20
          first
           | (refine run_passed sn8 ?_; exact detK.mk)
           | (refine run_guarded sn8 ?_; unfold runs; go_simp; exact detK.mk)
         refine sure_det (js := [(21, 211), (8, 198)]) (ts := []) (gd := (some (198, true))) (place_at HVS.out (k := 22) rfl) (by rw [HCS.out]; kernel_rfl) ?_ ?_
         ·intro wx hx ρ hρ hs hf; have hρc := hρ.const; have hρf := hρ.func; obtain ⟨sn21, sn8, -⟩ := hs; rw [place_at HVS.out (k := 21) rfl] at sn21; replace sn21 : ρ (.tmp 211) = _ := sn21; rw [place_at HVS.out (k := 8) rfl] at sn8; replace sn8 : ρ (.tmp 198) = _ := sn8
          clear hf
          clear HCS HVS qs3 qs10 qs11 qs14 qs19 qs20
          first
           | (refine run_passed sn8 ?_; exact detK.mk)
           | (refine run_guarded sn8 ?_; obtain ⟨p0, p1, p2, p3, -⟩ := hX wx hx.drawn; unfold runs; go_simp; exact detK.mk)
         refine sure_det (js := [(15, 205), (22, 212), (8, 198)]) (ts := []) (gd := (some (198, true))) (place_at HVS.out (k := 23) rfl) (by rw [HCS.out]; kernel_rfl) ?_ ?_
         ·intro wx hx ρ hρ hs hf; have hρc := hρ.const; have hρf := hρ.func; obtain ⟨sn15, sn22, sn8, -⟩ := hs; rw [place_at HVS.out (k := 15) rfl] at sn15; replace sn15 : ρ (.tmp 205) = _ := sn15; rw [place_at HVS.out (k := 22) rfl] at sn22; replace sn22 : ρ (.tmp 212) = _ := sn22; rw [place_at HVS.out (k := 8) rfl] at sn8; replace sn8 : ρ (.tmp 198) = _ := sn8
          clear hf
          clear HCS HVS qs3 qs10 qs11 qs14 qs19 qs20
          first
           | (refine run_passed sn8 ?_; exact detK.mk)
           | (refine run_guarded sn8 ?_; refine op_call rfl hρ Try.call51 (map_two sn15 sn22) ?_; refine Calls.mono (hsame _ (hX _ hx.drawn).2.2.2.2) ?_; rintro e w' ⟨rfl, hx5⟩; refine ⟨_, rfl, ?_⟩; exact detK.ext hx5)
         refine sure_det (js := [(23, 213), (8, 198)]) (ts := []) (gd := (some (198, true))) (place_at HVS.out (k := 24) rfl) (by rw [HCS.out]; kernel_rfl) ?_ ?_
         ·intro wx hx ρ hρ hs hf; have hρc := hρ.const; have hρf := hρ.func; obtain ⟨sn23, sn8, -⟩ := hs; rw [place_at HVS.out (k := 23) rfl] at sn23; replace sn23 : ρ (.tmp 213) = _ := sn23; rw [place_at HVS.out (k := 8) rfl] at sn8; replace sn8 : ρ (.tmp 198) = _ := sn8
          clear hf
          clear HCS HVS qs3 qs10 qs11 qs14 qs19 qs20
          first
           | (refine run_passed sn8 ?_; exact detK.mk)
           | (refine run_guarded sn8 ?_; unfold runs; go_simp; exact detK.mk)
         refine sure_det (js := [(8, 198), (24, 214)]) (ts := []) (gd := none) (place_at HVS.out (k := 25) rfl) (by rw [HCS.out]; kernel_rfl) ?_ ?_
         ·intro wx hx ρ hρ hs hf; have hρc := hρ.const; have hρf := hρ.func; obtain ⟨sn8, sn24, -⟩ := hs; rw [place_at HVS.out (k := 8) rfl] at sn8; replace sn8 : ρ (.tmp 198) = _ := sn8; rw [place_at HVS.out (k := 24) rfl] at sn24; replace sn24 : ρ (.tmp 214) = _ := sn24
          clear hf
          clear HCS HVS qs3 qs10 qs11 qs14 qs19 qs20
          refine run_plain ?_
          first | refine op_pick_t rfl sn8 sn24 ?_ | refine op_pick_f rfl sn8 (hρ.const _) ?_
          exact detK.mk
         exact trivial
        case hend =>
         intro xs wx hx hg
         have gk0 : xs 0 = _ := goods_get hg (i := 0) (j := 0) (d := 190) rfl
         have gk1 : xs 1 = _ := goods_get hg (i := 1) (j := 1) (d := 191) rfl
         have gk2 : xs 2 = _ := goods_get hg (i := 2) (j := 2) (d := 192) rfl
         have gk3 : xs 3 = _ := goods_get hg (i := 3) (j := 3) (d := 193) rfl
         have gk4 : xs 4 = _ := goods_get hg (i := 4) (j := 4) (d := 194) rfl
         have gk5 : xs 5 = _ := goods_get hg (i := 5) (j := 5) (d := 195) rfl
         have gk6 : xs 6 = _ := goods_get hg (i := 6) (j := 6) (d := 196) rfl
         have gk7 : xs 7 = _ := goods_get hg (i := 7) (j := 7) (d := 197) rfl
         have gk8 : xs 8 = _ := goods_get hg (i := 8) (j := 8) (d := 198) rfl
         have gk9 : xs 9 = _ := goods_get hg (i := 9) (j := 9) (d := 199) rfl
         have gk10 : xs 10 = _ := goods_get hg (i := 10) (j := 10) (d := 200) rfl
         have gk11 : xs 11 = _ := goods_get hg (i := 11) (j := 11) (d := 201) rfl
         have gk12 : xs 12 = _ := goods_get hg (i := 12) (j := 12) (d := 202) rfl
         have gk13 : xs 13 = _ := goods_get hg (i := 13) (j := 13) (d := 203) rfl
         have gk14 : xs 14 = _ := goods_get hg (i := 14) (j := 14) (d := 204) rfl
         have gk15 : xs 15 = _ := goods_get hg (i := 15) (j := 15) (d := 205) rfl
         have gk16 : xs 16 = _ := goods_get hg (i := 16) (j := 16) (d := 206) rfl
         have gk17 : xs 17 = _ := goods_get hg (i := 17) (j := 17) (d := 207) rfl
         have gk18 : xs 18 = _ := goods_get hg (i := 18) (j := 18) (d := 208) rfl
         have gk19 : xs 19 = _ := goods_get hg (i := 19) (j := 19) (d := 209) rfl
         have gk20 : xs 20 = _ := goods_get hg (i := 20) (j := 20) (d := 210) rfl
         have gk21 : xs 21 = _ := goods_get hg (i := 21) (j := 21) (d := 211) rfl
         have gk22 : xs 22 = _ := goods_get hg (i := 22) (j := 22) (d := 212) rfl
         have gk23 : xs 23 = _ := goods_get hg (i := 23) (j := 23) (d := 213) rfl
         have gk24 : xs 24 = _ := goods_get hg (i := 24) (j := 24) (d := 214) rfl
         have gk25 : xs 25 = _ := goods_get hg (i := 25) (j := 25) (d := 215) rfl
         clear hg
         simp only [putAll, gk0, gk1, gk2, gk3, gk4, gk5, gk6, gk7, gk8, gk9, gk10, gk11, gk12, gk13, gk14, gk15, gk16, gk17, gk18, gk19, gk20, gk21, gk22, gk23, gk24, gk25]
         clear gk0 gk1 gk2 gk3 gk4 gk5 gk6 gk7 gk8 gk9 gk10 gk11 gk12 gk13 gk14 gk15 gk16 gk17 gk18 gk19 gk20 gk21 gk22 gk23 gk24 gk25
         clear xs
         simp only [Act.put, List.setIfInBounds_toArray, List.set_cons_zero, List.set_cons_succ]
         have hxr2 := hxr.trans hx.drawn
         clear hX hx hsame hxr a1
         go_upto_region 28 with (fail)
         generalize wx = Wy at *
         have b2 : Wy.cell? ⟨gc, 2, none⟩ = some (.slice (some aC) n1 d1) := hxr2.cell (by simp [World.cell?, hdc])
         have c0' := hxr2.cell v0
         have c1' := hxr2.cell v1
         go_upto_region 29 with (fail)
         have hwz : Ext Wy (Wy.alloc (.cells #[.slice (u.cut z).D (u.cut z).q (u.cut z).cd, .int .i64 (u.cut z).k] 94)) := (Below.refl _ Wy).alloc (Nat.le_refl _) _
         have hdz : (Wy.alloc (.cells #[.slice (u.cut z).D (u.cut z).q (u.cut z).cd, .int .i64 (u.cut z).k] 94)).heap[Wy.heap.size]? = some (.cells #[.slice (u.cut z).D (u.cut z).q (u.cut z).cd, .int .i64 (u.cut z).k] 94 (0, 0)) := heap_alloc_new Wy _
         generalize Wy.alloc (.cells #[.slice (u.cut z).D (u.cut z).q (u.cut z).cd, .int .i64 (u.cut z).k] 94) = Wz at *
         generalize Wy.heap.size = gz at *
         have hxz := hxr2.trans hwz
         have hge := cutN_ge (more := z) hu0 hu1
         have hle := cutN_le (more := z) hu0 hu1
         have hvz := StOK.ext vok hxz
         have huz := StOK.ext uok hxz
         clear b2 c0' c1' hwz hxr2
         simp only [St.cut] at hdz hvz
         simp only [St.cut]
         generalize cutN u.q u.k z = N at *
         have hge' : ¬ (N : Int) < u.k := by omega
         have hle' : ¬ (u.q : Int) < (N : Int) := by omega
         have hbu := BytesV.upto huz hle
         have hcd : N ≤ u.cd := Nat.le_trans hle (BytesV.le huz)
         have hsl := fun W => run_slice_hi (P := Try.prog) 27 5 i0 Try.underlying27 hi0 u.D u.q u.cd N hcd W
         have hX : ∀ wx, Ext Wz wx → wx.cell? ⟨ga, 2, none⟩ = some (.slice (some ax) n1 c1) ∧ wx.cell? ⟨gz, 0, none⟩ = some (.slice u.D N N) ∧ wx.cell? ⟨gz, 1, none⟩ = some (.int .i64 N) ∧ wx.cell? (ax.add (j * 2)) = some (.slice u.D u.q u.cd) ∧ wx.cell? ⟨(ax.add (j * 2)).block, (ax.add (j * 2)).off + 1, none⟩ = some (.int .i64 u.k) ∧ Ext Wz wx := fun wx hx =>
          ⟨(hxz.trans hx).cell (by simp [World.cell?, hda]), hx.cell (by simp [World.cell?, hdz]), hx.cell (by simp [World.cell?, hdz]), (hxz.trans hx).cell u0, (hxz.trans hx).cell u1, hx⟩
         refine' wp_region_sure_all ⟨((some 223, [], none) :: (some 224, [0], none) :: (some 225, [1], none) :: (some 226, [], none) :: (some 227, [], none) :: (some 228, [4, 3], none) :: (some 229, [5], none) :: (some 230, [], none) :: (some 231, [6, 7], none) :: (some 232, [8], none) :: (some 233, [9], none) :: (some 234, [2, 10], none) :: (some 235, [11], none) :: (some 236, [12], some (12, false)) :: (some 237, [13, 12], some (12, false)) :: (some 238, [14, 12], some (12, false)) :: (some 239, [12], some (12, false)) :: (some 240, [12], some (12, false)) :: (some 241, [17, 16, 12], some (12, false)) :: (some 242, [18, 12], some (12, false)) :: (some 243, [12], some (12, false)) :: (some 244, [19, 20, 12], some (12, false)) :: (some 245, [21, 12], some (12, false)) :: (some 246, [22, 12], some (12, false)) :: (some 247, [23, 12], some (12, false)) :: (some 248, [15, 24, 12], some (12, false)) :: (some 249, [12, 25], none) :: (some 250, [26, 12], none) :: (some 251, [27], some (27, false)) :: (some 252, [28, 27], some (27, false)) :: (some 253, [29, 27], some (27, false)) :: (some 254, [27], some (27, false)) :: (some 255, [27], some (27, false)) :: (some 256, [32, 31, 27], some (27, false)) :: (some 257, [33, 27], some (27, false)) :: (some 258, [27], some (27, false)) :: (some 259, [34, 35, 27], some (27, false)) :: (some 260, [36, 27], some (27, false)) :: (some 261, [37, 27], some (27, false)) :: (some 262, [27], some (27, false)) :: (some 263, [39, 27], some (27, false)) :: (some 264, [40, 27], some (27, false)) :: (some 265, [38, 41, 27], some (27, false)) :: (some 266, [42, 27], some (27, false)) :: (some 267, [30, 43, 27], some (27, false)) :: (some 268, [27, 44], none) :: (some 269, [45, 27], none) :: (some 270, [46], some (46, false)) :: (some 271, [47, 46], some (46, false)) :: (some 272, [46], some (46, false)) :: (some 273, [49, 46], some (46, false)) :: (some 274, [50, 46], some (46, false)) :: (some 275, [48, 51, 46], some (46, false)) :: (some 276, [46, 52], none) :: []), (0 :: 1 :: 3 :: 0 :: 0 :: 24 :: 56 :: 0 :: 248 :: 504 :: 1016 :: 2047 :: 4095 :: 8191 :: 16383 :: 32767 :: 8191 :: 8191 :: 204799 :: 466943 :: 8191 :: 2039807 :: 4136959 :: 8331263 :: 16719871 :: 33554431 :: 67108863 :: 134217727 :: 268435455 :: 536870911 :: 1073741823 :: 268435455 :: 268435455 :: 6710886399 :: 15300820991 :: 268435455 :: 66840428543 :: 135559905279 :: 272998858751 :: 268435455 :: 550024249343 :: 1649535877119 :: 4396167462911 :: 8794213974015 :: 17592186044415 :: 35184372088831 :: 70368744177663 :: 140737488355327 :: 281474976710655 :: 140737488355327 :: 703687441776639 :: 1829587348619263 :: 4503599627370495 :: 9007199254740991 :: []), (true :: true :: true :: true :: true :: true :: true :: true :: true :: true :: true :: true :: true :: true :: true :: true :: true :: true :: true :: true :: true :: true :: true :: true :: true :: true :: true :: true :: true :: true :: true :: true :: true :: true :: true :: true :: true :: true :: true :: true :: true :: true :: true :: true :: true :: true :: true :: true :: true :: true :: true :: true :: true :: true :: []), [], 0⟩ 54 318 ((0, 223) :: (1, 224) :: (2, 225) :: (3, 226) :: (4, 227) :: (5, 228) :: (6, 229) :: (7, 230) :: (8, 231) :: (9, 232) :: (10, 233) :: (11, 234) :: (12, 235) :: (13, 236) :: (14, 237) :: (15, 238) :: (16, 239) :: (17, 240) :: (18, 241) :: (19, 242) :: (20, 243) :: (21, 244) :: (22, 245) :: (23, 246) :: (24, 247) :: (25, 248) :: (26, 249) :: (27, 250) :: (28, 251) :: (29, 252) :: (30, 253) :: (31, 254) :: (32, 255) :: (33, 256) :: (34, 257) :: (35, 258) :: (36, 259) :: (37, 260) :: (38, 261) :: (39, 262) :: (40, 263) :: (41, 264) :: (42, 265) :: (43, 266) :: (44, 267) :: (45, 268) :: (46, 269) :: (47, 270) :: (48, 271) :: (49, 272) :: (50, 273) :: (51, 274) :: (52, 275) :: (53, 276) :: []) ((0, 223) :: (1, 224) :: (2, 225) :: (3, 226) :: (4, 227) :: (5, 228) :: (6, 229) :: (7, 230) :: (8, 231) :: (9, 232) :: (10, 233) :: (11, 234) :: (12, 235) :: (13, 236) :: (14, 237) :: (15, 238) :: (16, 239) :: (17, 240) :: (18, 241) :: (19, 242) :: (20, 243) :: (21, 244) :: (22, 245) :: (23, 246) :: (24, 247) :: (25, 248) :: (26, 249) :: (27, 250) :: (28, 251) :: (29, 252) :: (30, 253) :: (31, 254) :: (32, 255) :: (33, 256) :: (34, 257) :: (35, 258) :: (36, 259) :: (37, 260) :: (38, 261) :: (39, 262) :: (40, 263) :: (41, 264) :: (42, 265) :: (43, 266) :: (44, 267) :: (45, 268) :: (46, 269) :: (47, 270) :: (48, 271) :: (49, 272) :: (50, 273) :: (51, 274) :: (52, 275) :: (53, 276) :: []) (.det _ :: .det _ :: .det _ :: .det _ :: .det _ :: .det _ :: .det _ :: .det _ :: .det _ :: .det _ :: .det _ :: .det _ :: .det _ :: .det _ :: .det _ :: .det _ :: .det _ :: .det _ :: .det _ :: .det _ :: .det _ :: .det _ :: .det _ :: .det _ :: .det _ :: .det _ :: .det _ :: .det _ :: .det _ :: .det _ :: .det _ :: .det _ :: .det _ :: .det _ :: .det _ :: .det _ :: .det _ :: .det _ :: .det _ :: .det _ :: .det _ :: .det _ :: .det _ :: .det _ :: .det _ :: .det _ :: .det _ :: .det _ :: .det _ :: .det _ :: .det _ :: .det _ :: .det _ :: .det _ :: []) (by kernel_rfl) (by kernel_rfl) (by kernel_rfl) rfl (by kernel_rfl) (by kernel_rfl) rfl (by kernel_rfl) ?hone ?hend
         case hone =>
          intro CS frS VS hCS ha hV
          have qs3 := slot_val (t := 3) ha rfl
          simp only [List.getElem_toArray, List.getElem_cons_succ, List.getElem_cons_zero] at qs3
          have qs19 := slot_val (t := 19) ha rfl
          simp only [List.getElem_toArray, List.getElem_cons_succ, List.getElem_cons_zero] at qs19
          have qs20 := slot_val (t := 20) ha rfl
          simp only [List.getElem_toArray, List.getElem_cons_succ, List.getElem_cons_zero] at qs20
          have qs21 := slot_val (t := 21) ha rfl
          simp only [List.getElem_toArray, List.getElem_cons_succ, List.getElem_cons_zero] at qs21
          have HCS := Lib.hid hCS
          have HVS := Lib.hid hV
          clear ha hCS hV
          refine sure_det (js := []) (ts := [21]) (gd := none) (place_at HVS.out (k := 0) rfl) (by rw [HCS.out]; kernel_rfl) ?_ ?_
          ·intro wx hx ρ hρ hs hf; have hρc := hρ.const; have hρf := hρ.func
           obtain ⟨fx21, -⟩ := hf; rw [qs21] at fx21
           clear hs
           clear HCS HVS qs3 qs19 qs20 qs21
           refine run_plain ?_
           unfold runs
           go_simp
           exact detK.mk
          refine sure_det (js := [(0, 223)]) (ts := []) (gd := none) (place_at HVS.out (k := 1) rfl) (by rw [HCS.out]; kernel_rfl) ?_ ?_
          ·intro wx hx ρ hρ hs hf; have hρc := hρ.const; have hρf := hρ.func; obtain ⟨sn0, -⟩ := hs; rw [place_at HVS.out (k := 0) rfl] at sn0; replace sn0 : ρ (.tmp 223) = _ := sn0
           clear hf
           clear HCS HVS qs3 qs19 qs20 qs21
           refine run_plain ?_
           obtain ⟨p0, p1, p2, p3, p4, -⟩ := hX wx hx.drawn
           unfold runs
           go_simp
           exact detK.mk
          refine sure_det (js := [(1, 224)]) (ts := []) (gd := none) (place_at HVS.out (k := 2) rfl) (by rw [HCS.out]; kernel_rfl) ?_ ?_
          ·intro wx hx ρ hρ hs hf; have hρc := hρ.const; have hρf := hρ.func; obtain ⟨sn1, -⟩ := hs; rw [place_at HVS.out (k := 1) rfl] at sn1; replace sn1 : ρ (.tmp 224) = _ := sn1
           clear hf
           clear HCS HVS qs3 qs19 qs20 qs21
           refine run_plain ?_
           unfold runs
           go_simp
           exact detK.mk
          refine sure_det (js := []) (ts := [19]) (gd := none) (place_at HVS.out (k := 3) rfl) (by rw [HCS.out]; kernel_rfl) ?_ ?_
          ·intro wx hx ρ hρ hs hf; have hρc := hρ.const; have hρf := hρ.func
           obtain ⟨fx19, -⟩ := hf; rw [qs19] at fx19
           clear hs
           clear HCS HVS qs3 qs19 qs20 qs21
           refine run_plain ?_
           refine op_move rfl fx19 ?_
           exact detK.mk
          refine sure_det (js := []) (ts := [3]) (gd := none) (place_at HVS.out (k := 4) rfl) (by rw [HCS.out]; kernel_rfl) ?_ ?_
          ·intro wx hx ρ hρ hs hf; have hρc := hρ.const; have hρf := hρ.func
           obtain ⟨fx3, -⟩ := hf; rw [qs3] at fx3
           clear hs
           clear HCS HVS qs3 qs19 qs20 qs21
           refine run_plain ?_
           unfold runs
           go_simp
           exact detK.mk
          refine sure_det (js := [(4, 227), (3, 226)]) (ts := []) (gd := none) (place_at HVS.out (k := 5) rfl) (by rw [HCS.out]; kernel_rfl) ?_ ?_
          ·intro wx hx ρ hρ hs hf; have hρc := hρ.const; have hρf := hρ.func; obtain ⟨sn4, sn3, -⟩ := hs; rw [place_at HVS.out (k := 4) rfl] at sn4; replace sn4 : ρ (.tmp 227) = _ := sn4; rw [place_at HVS.out (k := 3) rfl] at sn3; replace sn3 : ρ (.tmp 226) = _ := sn3
           clear hf
           clear HCS HVS qs3 qs19 qs20 qs21
           refine run_plain ?_
           unfold runs
           go_simp
           exact detK.mk
          refine sure_det (js := [(5, 228)]) (ts := []) (gd := none) (place_at HVS.out (k := 6) rfl) (by rw [HCS.out]; kernel_rfl) ?_ ?_
          ·intro wx hx ρ hρ hs hf; have hρc := hρ.const; have hρf := hρ.func; obtain ⟨sn5, -⟩ := hs; rw [place_at HVS.out (k := 5) rfl] at sn5; replace sn5 : ρ (.tmp 228) = _ := sn5
           clear hf
           clear HCS HVS qs3 qs19 qs20 qs21
           refine run_plain ?_
           obtain ⟨p0, p1, p2, p3, p4, -⟩ := hX wx hx.drawn
           unfold runs
           go_simp
           exact detK.mk
          refine sure_det (js := []) (ts := [20]) (gd := none) (place_at HVS.out (k := 7) rfl) (by rw [HCS.out]; kernel_rfl) ?_ ?_
          ·intro wx hx ρ hρ hs hf; have hρc := hρ.const; have hρf := hρ.func
           obtain ⟨fx20, -⟩ := hf; rw [qs20] at fx20
           clear hs
           clear HCS HVS qs3 qs19 qs20 qs21
           refine run_plain ?_
           refine op_move rfl fx20 ?_
           exact detK.mk
          refine sure_det (js := [(6, 229), (7, 230)]) (ts := []) (gd := none) (place_at HVS.out (k := 8) rfl) (by rw [HCS.out]; kernel_rfl) ?_ ?_
          ·intro wx hx ρ hρ hs hf; have hρc := hρ.const; have hρf := hρ.func; obtain ⟨sn6, sn7, -⟩ := hs; rw [place_at HVS.out (k := 6) rfl] at sn6; replace sn6 : ρ (.tmp 229) = _ := sn6; rw [place_at HVS.out (k := 7) rfl] at sn7; replace sn7 : ρ (.tmp 230) = _ := sn7
           clear hf
           clear HCS HVS qs3 qs19 qs20 qs21
           refine run_plain ?_
           unfold runs
           go_simp
           exact detK.mk
          refine sure_det (js := [(8, 231)]) (ts := []) (gd := none) (place_at HVS.out (k := 9) rfl) (by rw [HCS.out]; kernel_rfl) ?_ ?_
          ·intro wx hx ρ hρ hs hf; have hρc := hρ.const; have hρf := hρ.func; obtain ⟨sn8, -⟩ := hs; rw [place_at HVS.out (k := 8) rfl] at sn8; replace sn8 : ρ (.tmp 231) = _ := sn8
           clear hf
           clear HCS HVS qs3 qs19 qs20 qs21
           refine run_plain ?_
           unfold runs
           go_simp
           exact detK.mk
          refine sure_det (js := [(9, 232)]) (ts := []) (gd := none) (place_at HVS.out (k := 10) rfl) (by rw [HCS.out]; kernel_rfl) ?_ ?_
          ·intro wx hx ρ hρ hs hf; have hρc := hρ.const; have hρf := hρ.func; obtain ⟨sn9, -⟩ := hs; rw [place_at HVS.out (k := 9) rfl] at sn9; replace sn9 : ρ (.tmp 232) = _ := sn9
           clear hf
           clear HCS HVS qs3 qs19 qs20 qs21
           refine run_plain ?_
           obtain ⟨p0, p1, p2, p3, p4, -⟩ := hX wx hx.drawn
           unfold runs
           go_simp
           exact detK.mk
          refine sure_det (js := [(2, 225), (10, 233)]) (ts := []) (gd := none) (place_at HVS.out (k := 11) rfl) (by rw [HCS.out]; kernel_rfl) ?_ ?_
          ·intro wx hx ρ hρ hs hf; have hρc := hρ.const; have hρf := hρ.func; obtain ⟨sn2, sn10, -⟩ := hs; rw [place_at HVS.out (k := 2) rfl] at sn2; replace sn2 : ρ (.tmp 225) = _ := sn2; rw [place_at HVS.out (k := 10) rfl] at sn10; replace sn10 : ρ (.tmp 233) = _ := sn10
           clear hf
           clear HCS HVS qs3 qs19 qs20 qs21
           refine run_plain ?_
           unfold runs
           go_simp
           exact detK.mk
          refine sure_det (js := [(11, 234)]) (ts := []) (gd := none) (place_at HVS.out (k := 12) rfl) (by rw [HCS.out]; kernel_rfl) ?_ ?_
          ·intro wx hx ρ hρ hs hf; have hρc := hρ.const; have hρf := hρ.func; obtain ⟨sn11, -⟩ := hs; rw [place_at HVS.out (k := 11) rfl] at sn11; replace sn11 : ρ (.tmp 234) = _ := sn11
           clear hf
           clear HCS HVS qs3 qs19 qs20 qs21
           refine run_plain ?_
           refine op_move rfl sn11 ?_
           exact detK.mk
          refine sure_det (js := [(12, 235)]) (ts := [21]) (gd := (some (235, false))) (place_at HVS.out (k := 13) rfl) (by rw [HCS.out]; kernel_rfl) ?_ ?_
          ·intro wx hx ρ hρ hs hf; have hρc := hρ.const; have hρf := hρ.func; obtain ⟨sn12, -⟩ := hs
           obtain ⟨fx21, -⟩ := hf; rw [qs21] at fx21; rw [place_at HVS.out (k := 12) rfl] at sn12; replace sn12 : ρ (.tmp 235) = _ := sn12
           clear HCS HVS qs3 qs19 qs20 qs21
           first
            | (refine run_passed sn12 ?_; exact detK.mk)
            | (refine run_guarded sn12 ?_; unfold runs; go_simp; exact detK.mk)
          refine sure_det (js := [(13, 236), (12, 235)]) (ts := []) (gd := (some (235, false))) (place_at HVS.out (k := 14) rfl) (by rw [HCS.out]; kernel_rfl) ?_ ?_
          ·intro wx hx ρ hρ hs hf; have hρc := hρ.const; have hρf := hρ.func; obtain ⟨sn13, sn12, -⟩ := hs; rw [place_at HVS.out (k := 13) rfl] at sn13; replace sn13 : ρ (.tmp 236) = _ := sn13; rw [place_at HVS.out (k := 12) rfl] at sn12; replace sn12 : ρ (.tmp 235) = _ := sn12
           clear hf
           clear HCS HVS qs3 qs19 qs20 qs21
           first
            | (refine run_passed sn12 ?_; exact detK.mk)
            | (refine run_guarded sn12 ?_; obtain ⟨p0, p1, p2, p3, p4, -⟩ := hX wx hx.drawn; unfold runs; go_simp; exact detK.mk)
          refine sure_det (js := [(14, 237), (12, 235)]) (ts := []) (gd := (some (235, false))) (place_at HVS.out (k := 15) rfl) (by rw [HCS.out]; kernel_rfl) ?_ ?_
          ·intro wx hx ρ hρ hs hf; have hρc := hρ.const; have hρf := hρ.func; obtain ⟨sn14, sn12, -⟩ := hs; rw [place_at HVS.out (k := 14) rfl] at sn14; replace sn14 : ρ (.tmp 237) = _ := sn14; rw [place_at HVS.out (k := 12) rfl] at sn12; replace sn12 : ρ (.tmp 235) = _ := sn12
           clear hf
           clear HCS HVS qs3 qs19 qs20 qs21
           first
            | (refine run_passed sn12 ?_; exact detK.mk)
            | (refine run_guarded sn12 ?_; unfold runs; go_simp; exact detK.mk)
          refine sure_det (js := [(12, 235)]) (ts := [19]) (gd := (some (235, false))) (place_at HVS.out (k := 16) rfl) (by rw [HCS.out]; kernel_rfl) ?_ ?_
          ·intro wx hx ρ hρ hs hf; have hρc := hρ.const; have hρf := hρ.func; obtain ⟨sn12, -⟩ := hs
           obtain ⟨fx19, -⟩ := hf; rw [qs19] at fx19; rw [place_at HVS.out (k := 12) rfl] at sn12; replace sn12 : ρ (.tmp 235) = _ := sn12
           clear HCS HVS qs3 qs19 qs20 qs21
           first
            | (refine run_passed sn12 ?_; exact detK.mk)
            | (refine run_guarded sn12 ?_; refine op_move rfl fx19 ?_; exact detK.mk)
          refine sure_det (js := [(12, 235)]) (ts := [3]) (gd := (some (235, false))) (place_at HVS.out (k := 17) rfl) (by rw [HCS.out]; kernel_rfl) ?_ ?_
          ·intro wx hx ρ hρ hs hf; have hρc := hρ.const; have hρf := hρ.func; obtain ⟨sn12, -⟩ := hs
           obtain ⟨fx3, -⟩ := hf; rw [qs3] at fx3; rw [place_at HVS.out (k := 12) rfl] at sn12; replace sn12 : ρ (.tmp 235) = _ := sn12
           clear HCS HVS qs3 qs19 qs20 qs21
           first
            | (refine run_passed sn12 ?_; exact detK.mk)
            | (refine run_guarded sn12 ?_; unfold runs; go_simp; exact detK.mk)
          refine sure_det (js := [(17, 240), (16, 239), (12, 235)]) (ts := []) (gd := (some (235, false))) (place_at HVS.out (k := 18) rfl) (by rw [HCS.out]; kernel_rfl) ?_ ?_
          ·intro wx hx ρ hρ hs hf; have hρc := hρ.const; have hρf := hρ.func; obtain ⟨sn17, sn16, sn12, -⟩ := hs; rw [place_at HVS.out (k := 17) rfl] at sn17; replace sn17 : ρ (.tmp 240) = _ := sn17; rw [place_at HVS.out (k := 16) rfl] at sn16; replace sn16 : ρ (.tmp 239) = _ := sn16; rw [place_at HVS.out (k := 12) rfl] at sn12; replace sn12 : ρ (.tmp 235) = _ := sn12
           clear hf
           clear HCS HVS qs3 qs19 qs20 qs21
           first
            | (refine run_passed sn12 ?_; exact detK.mk)
            | (refine run_guarded sn12 ?_; unfold runs; go_simp; exact detK.mk)
          refine sure_det (js := [(18, 241), (12, 235)]) (ts := []) (gd := (some (235, false))) (place_at HVS.out (k := 19) rfl) (by rw [HCS.out]; kernel_rfl) ?_ ?_
          ·intro wx hx ρ hρ hs hf; have hρc := hρ.const; have hρf := hρ.func; obtain ⟨sn18, sn12, -⟩ := hs; rw [place_at HVS.out (k := 18) rfl] at sn18; replace sn18 : ρ (.tmp 241) = _ := sn18; rw [place_at HVS.out (k := 12) rfl] at sn12; replace sn12 : ρ (.tmp 235) = _ := sn12
           clear hf
           clear HCS HVS qs3 qs19 qs20 qs21
           first
            | (refine run_passed sn12 ?_; exact detK.mk)
            | (refine run_guarded sn12 ?_; obtain ⟨p0, p1, p2, p3, p4, -⟩ := hX wx hx.drawn; unfold runs; go_simp; exact detK.mk)
          refine sure_det (js := [(12, 235)]) (ts := [20]) (gd := (some (235, false))) (place_at HVS.out (k := 20) rfl) (by rw [HCS.out]; kernel_rfl) ?_ ?_
          ·intro wx hx ρ hρ hs hf; have hρc := hρ.const; have hρf := hρ.func; obtain ⟨sn12, -⟩ := hs
           obtain ⟨fx20, -⟩ := hf; rw [qs20] at fx20; rw [place_at HVS.out (k := 12) rfl] at sn12; replace sn12 : ρ (.tmp 235) = _ := sn12
           clear HCS HVS qs3 qs19 qs20 qs21
           first
            | (refine run_passed sn12 ?_; exact detK.mk)
            | (refine run_guarded sn12 ?_; refine op_move rfl fx20 ?_; exact detK.mk)
          refine sure_det (js := [(19, 242), (20, 243), (12, 235)]) (ts := []) (gd := (some (235, false))) (place_at HVS.out (k := 21) rfl) (by rw [HCS.out]; kernel_rfl) ?_ ?_
          ·intro wx hx ρ hρ hs hf; have hρc := hρ.const; have hρf := hρ.func; obtain ⟨sn19, sn20, sn12, -⟩ := hs; rw [place_at HVS.out (k := 19) rfl] at sn19; replace sn19 : ρ (.tmp 242) = _ := sn19; rw [place_at HVS.out (k := 20) rfl] at sn20; replace sn20 : ρ (.tmp 243) = _ := sn20; rw [place_at HVS.out (k := 12) rfl] at sn12; replace sn12 : ρ (.tmp 235) = _ := sn12
           clear hf
           clear HCS HVS qs3 qs19 qs20 qs21
           first
            | (refine run_passed sn12 ?_; exact detK.mk)
            | (refine run_guarded sn12 ?_; unfold runs; go_simp; exact detK.mk)
          refine sure_det (js := [(21, 244), (12, 235)]) (ts := []) (gd := (some (235, false))) (place_at HVS.out (k := 22) rfl) (by rw [HCS.out]; kernel_rfl) ?_ ?_
          ·intro wx hx ρ hρ hs hf; have hρc := hρ.const; have hρf := hρ.func; obtain ⟨sn21, sn12, -⟩ := hs; rw [place_at HVS.out (k := 21) rfl] at sn21; replace sn21 : ρ (.tmp 244) = _ := sn21; rw [place_at HVS.out (k := 12) rfl] at sn12; replace sn12 : ρ (.tmp 235) = _ := sn12
           clear hf
           clear HCS HVS qs3 qs19 qs20 qs21
           first
            | (refine run_passed sn12 ?_; exact detK.mk)
            | (refine run_guarded sn12 ?_; unfold runs; go_simp; exact detK.mk)
          refine sure_det (js := [(22, 245), (12, 235)]) (ts := []) (gd := (some (235, false))) (place_at HVS.out (k := 23) rfl) (by rw [HCS.out]; kernel_rfl) ?_ ?_
          ·intro wx hx ρ hρ hs hf; have hρc := hρ.const; have hρf := hρ.func; obtain ⟨sn22, sn12, -⟩ := hs; rw [place_at HVS.out (k := 22) rfl] at sn22; replace sn22 : ρ (.tmp 245) = _ := sn22; rw [place_at HVS.out (k := 12) rfl] at sn12; replace sn12 : ρ (.tmp 235) = _ := sn12
           clear hf
           clear HCS HVS qs3 qs19 qs20 qs21
           first
            | (refine run_passed sn12 ?_; exact detK.mk)
            | (refine run_guarded sn12 ?_; obtain ⟨p0, p1, p2, p3, p4, -⟩ := hX wx hx.drawn; unfold runs; go_simp; exact detK.mk)
          refine sure_det (js := [(23, 246), (12, 235)]) (ts := []) (gd := (some (235, false))) (place_at HVS.out (k := 24) rfl) (by rw [HCS.out]; kernel_rfl) ?_ ?_
          ·intro wx hx ρ hρ hs hf; have hρc := hρ.const; have hρf := hρ.func; obtain ⟨sn23, sn12, -⟩ := hs; rw [place_at HVS.out (k := 23) rfl] at sn23; replace sn23 : ρ (.tmp 246) = _ := sn23; rw [place_at HVS.out (k := 12) rfl] at sn12; replace sn12 : ρ (.tmp 235) = _ := sn12
           clear hf
           clear HCS HVS qs3 qs19 qs20 qs21
           first
            | (refine run_passed sn12 ?_; exact detK.mk)
            | (refine run_guarded sn12 ?_; unfold runs; go_simp; exact detK.mk)
          refine sure_det (js := [(15, 238), (24, 247), (12, 235)]) (ts := []) (gd := (some (235, false))) (place_at HVS.out (k := 25) rfl) (by rw [HCS.out]; kernel_rfl) ?_ ?_
          ·intro wx hx ρ hρ hs hf; have hρc := hρ.const; have hρf := hρ.func; obtain ⟨sn15, sn24, sn12, -⟩ := hs; rw [place_at HVS.out (k := 15) rfl] at sn15; replace sn15 : ρ (.tmp 238) = _ := sn15; rw [place_at HVS.out (k := 24) rfl] at sn24; replace sn24 : ρ (.tmp 247) = _ := sn24; rw [place_at HVS.out (k := 12) rfl] at sn12; replace sn12 : ρ (.tmp 235) = _ := sn12
           clear hf
           clear HCS HVS qs3 qs19 qs20 qs21
           first
            | (refine run_passed sn12 ?_; exact detK.mk)
            | (refine run_guarded sn12 ?_; unfold runs; go_simp; exact detK.mk)
          refine sure_det (js := [(12, 235), (25, 248)]) (ts := []) (gd := none) (place_at HVS.out (k := 26) rfl) (by rw [HCS.out]; kernel_rfl) ?_ ?_
          ·intro wx hx ρ hρ hs hf; have hρc := hρ.const; have hρf := hρ.func; obtain ⟨sn12, sn25, -⟩ := hs; rw [place_at HVS.out (k := 12) rfl] at sn12; replace sn12 : ρ (.tmp 235) = _ := sn12; rw [place_at HVS.out (k := 25) rfl] at sn25; replace sn25 : ρ (.tmp 248) = _ := sn25
           clear hf
           clear HCS HVS qs3 qs19 qs20 qs21
           refine run_plain ?_
           first | refine op_pick_t rfl sn12 (hρ.const _) ?_ | refine op_pick_f rfl sn12 sn25 ?_
           exact detK.mk
          refine sure_det (js := [(26, 249)]) (ts := []) (gd := none) (place_at HVS.out (k := 27) rfl) (by rw [HCS.out]; kernel_rfl) ?_ ?_
          ·intro wx hx ρ hρ hs hf; have hρc := hρ.const; have hρf := hρ.func; obtain ⟨sn26, -⟩ := hs; rw [place_at HVS.out (k := 26) rfl] at sn26; replace sn26 : ρ (.tmp 249) = _ := sn26
           clear hf
           clear HCS HVS qs3 qs19 qs20 qs21
           refine run_plain ?_
           refine op_move rfl sn26 ?_
           exact detK.mk
          refine sure_det (js := [(27, 250)]) (ts := [21]) (gd := (some (250, false))) (place_at HVS.out (k := 28) rfl) (by rw [HCS.out]; kernel_rfl) ?_ ?_
          ·intro wx hx ρ hρ hs hf; have hρc := hρ.const; have hρf := hρ.func; obtain ⟨sn27, -⟩ := hs
           obtain ⟨fx21, -⟩ := hf; rw [qs21] at fx21; rw [place_at HVS.out (k := 27) rfl] at sn27; replace sn27 : ρ (.tmp 250) = _ := sn27
           clear HCS HVS qs3 qs19 qs20 qs21
           first
            | (refine run_passed sn27 ?_; exact detK.mk)
            | (refine run_guarded sn27 ?_; unfold runs; go_simp; exact detK.mk)
          refine sure_det (js := [(28, 251), (27, 250)]) (ts := []) (gd := (some (250, false))) (place_at HVS.out (k := 29) rfl) (by rw [HCS.out]; kernel_rfl) ?_ ?_
          ·intro wx hx ρ hρ hs hf; have hρc := hρ.const; have hρf := hρ.func; obtain ⟨sn28, sn27, -⟩ := hs; rw [place_at HVS.out (k := 28) rfl] at sn28; replace sn28 : ρ (.tmp 251) = _ := sn28; rw [place_at HVS.out (k := 27) rfl] at sn27; replace sn27 : ρ (.tmp 250) = _ := sn27
           clear hf
           clear HCS HVS qs3 qs19 qs20 qs21
           first
            | (refine run_passed sn27 ?_; exact detK.mk)
            | (refine run_guarded sn27 ?_; obtain ⟨p0, p1, p2, p3, p4, -⟩ := hX wx hx.drawn; unfold runs; go_simp; exact detK.mk)
          refine sure_det (js := [(29, 252), (27, 250)]) (ts := []) (gd := (some (250, false))) (place_at HVS.out (k := 30) rfl) (by rw [HCS.out]; kernel_rfl) ?_ ?_
          ·intro wx hx ρ hρ hs hf; have hρc := hρ.const; have hρf := hρ.func; obtain ⟨sn29, sn27, -⟩ := hs; rw [place_at HVS.out (k := 29) rfl] at sn29; replace sn29 : ρ (.tmp 252) = _ := sn29; rw [place_at HVS.out (k := 27) rfl] at sn27; replace sn27 : ρ (.tmp 250) = _ := sn27
           clear hf
           clear HCS HVS qs3 qs19 qs20 qs21
           first
            | (refine run_passed sn27 ?_; exact detK.mk)
            | (refine run_guarded sn27 ?_; have q1 := run_convert_bytesV (P := Try.prog) (BytesV.ext hvz hx.drawn) Try.underlying27 Try.underlying5 Try.underlying9; unfold runs; go_simp; exact detK.mk)
          refine sure_det (js := [(27, 250)]) (ts := [19]) (gd := (some (250, false))) (place_at HVS.out (k := 31) rfl) (by rw [HCS.out]; kernel_rfl) ?_ ?_
          ·intro wx hx ρ hρ hs hf; have hρc := hρ.const; have hρf := hρ.func; obtain ⟨sn27, -⟩ := hs
           obtain ⟨fx19, -⟩ := hf; rw [qs19] at fx19; rw [place_at HVS.out (k := 27) rfl] at sn27; replace sn27 : ρ (.tmp 250) = _ := sn27
           clear HCS HVS qs3 qs19 qs20 qs21
           first
            | (refine run_passed sn27 ?_; exact detK.mk)
            | (refine run_guarded sn27 ?_; refine op_move rfl fx19 ?_; exact detK.mk)
          refine sure_det (js := [(27, 250)]) (ts := [3]) (gd := (some (250, false))) (place_at HVS.out (k := 32) rfl) (by rw [HCS.out]; kernel_rfl) ?_ ?_
          ·intro wx hx ρ hρ hs hf; have hρc := hρ.const; have hρf := hρ.func; obtain ⟨sn27, -⟩ := hs
           obtain ⟨fx3, -⟩ := hf; rw [qs3] at fx3; rw [place_at HVS.out (k := 27) rfl] at sn27; replace sn27 : ρ (.tmp 250) = _ := sn27
           clear HCS HVS qs3 qs19 qs20 qs21
           first
            | (refine run_passed sn27 ?_; exact detK.mk)
            | (refine run_guarded sn27 ?_; unfold runs; go_simp; exact detK.mk)
          refine sure_det (js := [(32, 255), (31, 254), (27, 250)]) (ts := []) (gd := (some (250, false))) (place_at HVS.out (k := 33) rfl) (by rw [HCS.out]; kernel_rfl) ?_ ?_
          ·intro wx hx ρ hρ hs hf; have hρc := hρ.const; have hρf := hρ.func; obtain ⟨sn32, sn31, sn27, -⟩ := hs; rw [place_at HVS.out (k := 32) rfl] at sn32; replace sn32 : ρ (.tmp 255) = _ := sn32; rw [place_at HVS.out (k := 31) rfl] at sn31; replace sn31 : ρ (.tmp 254) = _ := sn31; rw [place_at HVS.out (k := 27) rfl] at sn27; replace sn27 : ρ (.tmp 250) = _ := sn27
           clear hf
           clear HCS HVS qs3 qs19 qs20 qs21
           first
            | (refine run_passed sn27 ?_; exact detK.mk)
            | (refine run_guarded sn27 ?_; unfold runs; go_simp; exact detK.mk)
          refine sure_det (js := [(33, 256), (27, 250)]) (ts := []) (gd := (some (250, false))) (place_at HVS.out (k := 34) rfl) (by rw [HCS.out]; kernel_rfl) ?_ ?_
          ·intro wx hx ρ hρ hs hf; have hρc := hρ.const; have hρf := hρ.func; obtain ⟨sn33, sn27, -⟩ := hs; rw [place_at HVS.out (k := 33) rfl] at sn33; replace sn33 : ρ (.tmp 256) = _ := sn33; rw [place_at HVS.out (k := 27) rfl] at sn27; replace sn27 : ρ (.tmp 250) = _ := sn27
           clear hf
           clear HCS HVS qs3 qs19 qs20 qs21
           first
            | (refine run_passed sn27 ?_; exact detK.mk)
            | (refine run_guarded sn27 ?_; obtain ⟨p0, p1, p2, p3, p4, -⟩ := hX wx hx.drawn; unfold runs; go_simp; exact detK.mk)
          refine sure_det (js := [(27, 250)]) (ts := [20]) (gd := (some (250, false))) (place_at HVS.out (k := 35) rfl) (by rw [HCS.out]; kernel_rfl) ?_ ?_
          ·intro wx hx ρ hρ hs hf; have hρc := hρ.const; have hρf := hρ.func; obtain ⟨sn27, -⟩ := hs
           obtain ⟨fx20, -⟩ := hf; rw [qs20] at fx20; rw [place_at HVS.out (k := 27) rfl] at sn27; replace sn27 : ρ (.tmp 250) = _ := sn27
           clear HCS HVS qs3 qs19 qs20 qs21
           first
            | (refine run_passed sn27 ?_; exact detK.mk)
            | (refine run_guarded sn27 ?_; refine op_move rfl fx20 ?_; exact detK.mk)
          refine sure_det (js := [(34, 257), (35, 258), (27, 250)]) (ts := []) (gd := (some (250, false))) (place_at HVS.out (k := 36) rfl) (by rw [HCS.out]; kernel_rfl) ?_ ?_
          ·intro wx hx ρ hρ hs hf; have hρc := hρ.const; have hρf := hρ.func; obtain ⟨sn34, sn35, sn27, -⟩ := hs; rw [place_at HVS.out (k := 34) rfl] at sn34; replace sn34 : ρ (.tmp 257) = _ := sn34; rw [place_at HVS.out (k := 35) rfl] at sn35; replace sn35 : ρ (.tmp 258) = _ := sn35; rw [place_at HVS.out (k := 27) rfl] at sn27; replace sn27 : ρ (.tmp 250) = _ := sn27
           clear hf
           clear HCS HVS qs3 qs19 qs20 qs21
           first
            | (refine run_passed sn27 ?_; exact detK.mk)
            | (refine run_guarded sn27 ?_; unfold runs; go_simp; exact detK.mk)
          refine sure_det (js := [(36, 259), (27, 250)]) (ts := []) (gd := (some (250, false))) (place_at HVS.out (k := 37) rfl) (by rw [HCS.out]; kernel_rfl) ?_ ?_
          ·intro wx hx ρ hρ hs hf; have hρc := hρ.const; have hρf := hρ.func; obtain ⟨sn36, sn27, -⟩ := hs; rw [place_at HVS.out (k := 36) rfl] at sn36; replace sn36 : ρ (.tmp 259) = _ := sn36; rw [place_at HVS.out (k := 27) rfl] at sn27; replace sn27 : ρ (.tmp 250) = _ := sn27
           clear hf
           clear HCS HVS qs3 qs19 qs20 qs21
           first
            | (refine run_passed sn27 ?_; exact detK.mk)
            | (refine run_guarded sn27 ?_; unfold runs; go_simp; exact detK.mk)
          refine sure_det (js := [(37, 260), (27, 250)]) (ts := []) (gd := (some (250, false))) (place_at HVS.out (k := 38) rfl) (by rw [HCS.out]; kernel_rfl) ?_ ?_
          ·intro wx hx ρ hρ hs hf; have hρc := hρ.const; have hρf := hρ.func; obtain ⟨sn37, sn27, -⟩ := hs; rw [place_at HVS.out (k := 37) rfl] at sn37; replace sn37 : ρ (.tmp 260) = _ := sn37; rw [place_at HVS.out (k := 27) rfl] at sn27; replace sn27 : ρ (.tmp 250) = _ := sn27
           clear hf
           clear HCS HVS qs3 qs19 qs20 qs21
           first
            | (refine run_passed sn27 ?_; exact detK.mk)
            | (refine run_guarded sn27 ?_; obtain ⟨p0, p1, p2, p3, p4, -⟩ := hX wx hx.drawn; unfold runs; go_simp; exact detK.mk)
          refine sure_det (js := [(27, 250)]) (ts := [21]) (gd := (some (250, false))) (place_at HVS.out (k := 39) rfl) (by rw [HCS.out]; kernel_rfl) ?_ ?_
          ·intro wx hx ρ hρ hs hf; have hρc := hρ.const; have hρf := hρ.func; obtain ⟨sn27, -⟩ := hs
           obtain ⟨fx21, -⟩ := hf; rw [qs21] at fx21; rw [place_at HVS.out (k := 27) rfl] at sn27; replace sn27 : ρ (.tmp 250) = _ := sn27
           clear HCS HVS qs3 qs19 qs20 qs21
           first
            | (refine run_passed sn27 ?_; exact detK.mk)
            | (refine run_guarded sn27 ?_; unfold runs; go_simp; exact detK.mk)
          refine sure_det (js := [(39, 262), (27, 250)]) (ts := []) (gd := (some (250, false))) (place_at HVS.out (k := 40) rfl) (by rw [HCS.out]; kernel_rfl) ?_ ?_
          ·intro wx hx ρ hρ hs hf; have hρc := hρ.const; have hρf := hρ.func; obtain ⟨sn39, sn27, -⟩ := hs; rw [place_at HVS.out (k := 39) rfl] at sn39; replace sn39 : ρ (.tmp 262) = _ := sn39; rw [place_at HVS.out (k := 27) rfl] at sn27; replace sn27 : ρ (.tmp 250) = _ := sn27
           clear hf
           clear HCS HVS qs3 qs19 qs20 qs21
           first
            | (refine run_passed sn27 ?_; exact detK.mk)
            | (refine run_guarded sn27 ?_; obtain ⟨p0, p1, p2, p3, p4, -⟩ := hX wx hx.drawn; unfold runs; go_simp; exact detK.mk)
          refine sure_det (js := [(40, 263), (27, 250)]) (ts := []) (gd := (some (250, false))) (place_at HVS.out (k := 41) rfl) (by rw [HCS.out]; kernel_rfl) ?_ ?_
          ·intro wx hx ρ hρ hs hf; have hρc := hρ.const; have hρf := hρ.func; obtain ⟨sn40, sn27, -⟩ := hs; rw [place_at HVS.out (k := 40) rfl] at sn40; replace sn40 : ρ (.tmp 263) = _ := sn40; rw [place_at HVS.out (k := 27) rfl] at sn27; replace sn27 : ρ (.tmp 250) = _ := sn27
           clear hf
           clear HCS HVS qs3 qs19 qs20 qs21
           first
            | (refine run_passed sn27 ?_; exact detK.mk)
            | (refine run_guarded sn27 ?_; unfold runs; go_simp; exact detK.mk)
          refine sure_det (js := [(38, 261), (41, 264), (27, 250)]) (ts := []) (gd := (some (250, false))) (place_at HVS.out (k := 42) rfl) (by rw [HCS.out]; kernel_rfl) ?_ ?_
          ·intro wx hx ρ hρ hs hf; have hρc := hρ.const; have hρf := hρ.func; obtain ⟨sn38, sn41, sn27, -⟩ := hs; rw [place_at HVS.out (k := 38) rfl] at sn38; replace sn38 : ρ (.tmp 261) = _ := sn38; rw [place_at HVS.out (k := 41) rfl] at sn41; replace sn41 : ρ (.tmp 264) = _ := sn41; rw [place_at HVS.out (k := 27) rfl] at sn27; replace sn27 : ρ (.tmp 250) = _ := sn27
           clear hf
           clear HCS HVS qs3 qs19 qs20 qs21
           first
            | (refine run_passed sn27 ?_; exact detK.mk)
            | (refine run_guarded sn27 ?_; unfold runs; go_simp; exact detK.mk)
          refine sure_det (js := [(42, 265), (27, 250)]) (ts := []) (gd := (some (250, false))) (place_at HVS.out (k := 43) rfl) (by rw [HCS.out]; kernel_rfl) ?_ ?_
          ·intro wx hx ρ hρ hs hf; have hρc := hρ.const; have hρf := hρ.func; obtain ⟨sn42, sn27, -⟩ := hs; rw [place_at HVS.out (k := 42) rfl] at sn42; replace sn42 : ρ (.tmp 265) = _ := sn42; rw [place_at HVS.out (k := 27) rfl] at sn27; replace sn27 : ρ (.tmp 250) = _ := sn27
           clear hf
           clear HCS HVS qs3 qs19 qs20 qs21
           first
            | (refine run_passed sn27 ?_; exact detK.mk)
            | (refine run_guarded sn27 ?_; have q1 := run_convert_bytesV (P := Try.prog) (hbu.ext hx.drawn) Try.underlying27 Try.underlying5 Try.underlying9; unfold runs; go_simp; exact detK.mk)
          refine sure_det (js := [(30, 253), (43, 266), (27, 250)]) (ts := []) (gd := (some (250, false))) (place_at HVS.out (k := 44) rfl) (by rw [HCS.out]; kernel_rfl) ?_ ?_
          ·intro wx hx ρ hρ hs hf; have hρc := hρ.const; have hρf := hρ.func; obtain ⟨sn30, sn43, sn27, -⟩ := hs; rw [place_at HVS.out (k := 30) rfl] at sn30; replace sn30 : ρ (.tmp 253) = _ := sn30; rw [place_at HVS.out (k := 43) rfl] at sn43; replace sn43 : ρ (.tmp 266) = _ := sn43; rw [place_at HVS.out (k := 27) rfl] at sn27; replace sn27 : ρ (.tmp 250) = _ := sn27
           clear hf
           clear HCS HVS qs3 qs19 qs20 qs21
           first
            | (refine run_passed sn27 ?_; exact detK.mk)
            | (refine run_guarded sn27 ?_; unfold runs; go_simp; exact detK.mk)
          refine sure_det (js := [(27, 250), (44, 267)]) (ts := []) (gd := none) (place_at HVS.out (k := 45) rfl) (by rw [HCS.out]; kernel_rfl) ?_ ?_
          ·intro wx hx ρ hρ hs hf; have hρc := hρ.const; have hρf := hρ.func; obtain ⟨sn27, sn44, -⟩ := hs; rw [place_at HVS.out (k := 27) rfl] at sn27; replace sn27 : ρ (.tmp 250) = _ := sn27; rw [place_at HVS.out (k := 44) rfl] at sn44; replace sn44 : ρ (.tmp 267) = _ := sn44
           clear hf
           clear HCS HVS qs3 qs19 qs20 qs21
           refine run_plain ?_
           first | refine op_pick_t rfl sn27 (hρ.const _) ?_ | refine op_pick_f rfl sn27 sn44 ?_
           exact detK.mk
          refine sure_det (js := [(45, 268)]) (ts := []) (gd := none) (place_at HVS.out (k := 46) rfl) (by rw [HCS.out]; kernel_rfl) ?_ ?_
          ·intro wx hx ρ hρ hs hf; have hρc := hρ.const; have hρf := hρ.func; obtain ⟨sn45, -⟩ := hs; rw [place_at HVS.out (k := 45) rfl] at sn45; replace sn45 : ρ (.tmp 268) = _ := sn45
           clear hf
           clear HCS HVS qs3 qs19 qs20 qs21
           refine run_plain ?_
           refine op_move rfl sn45 ?_
           exact detK.mk
          refine sure_det (js := [(46, 269)]) (ts := [21]) (gd := (some (269, false))) (place_at HVS.out (k := 47) rfl) (by rw [HCS.out]; kernel_rfl) ?_ ?_
          ·intro wx hx ρ hρ hs hf; have hρc := hρ.const; have hρf := hρ.func; obtain ⟨sn46, -⟩ := hs
           obtain ⟨fx21, -⟩ := hf; rw [qs21] at fx21; rw [place_at HVS.out (k := 46) rfl] at sn46; replace sn46 : ρ (.tmp 269) = _ := sn46
           clear HCS HVS qs3 qs19 qs20 qs21
           first
            | (refine run_passed sn46 ?_; exact detK.mk)
            | (refine run_guarded sn46 ?_; unfold runs; go_simp; exact detK.mk)
          refine sure_det (js := [(47, 270), (46, 269)]) (ts := []) (gd := (some (269, false))) (place_at HVS.out (k := 48) rfl) (by rw [HCS.out]; kernel_rfl) ?_ ?_
          ·intro wx hx ρ hρ hs hf; have hρc := hρ.const; have hρf := hρ.func; obtain ⟨sn47, sn46, -⟩ := hs; rw [place_at HVS.out (k := 47) rfl] at sn47; replace sn47 : ρ (.tmp 270) = _ := sn47; rw [place_at HVS.out (k := 46) rfl] at sn46; replace sn46 : ρ (.tmp 269) = _ := sn46
           clear hf
           clear HCS HVS qs3 qs19 qs20 qs21
           first
            | (refine run_passed sn46 ?_; exact detK.mk)
            | (refine run_guarded sn46 ?_; obtain ⟨p0, p1, p2, p3, p4, -⟩ := hX wx hx.drawn; unfold runs; go_simp; exact detK.mk)
          refine sure_det (js := [(46, 269)]) (ts := [21]) (gd := (some (269, false))) (place_at HVS.out (k := 49) rfl) (by rw [HCS.out]; kernel_rfl) ?_ ?_
          ·intro wx hx ρ hρ hs hf; have hρc := hρ.const; have hρf := hρ.func; obtain ⟨sn46, -⟩ := hs
           obtain ⟨fx21, -⟩ := hf; rw [qs21] at fx21; rw [place_at HVS.out (k := 46) rfl] at sn46; replace sn46 : ρ (.tmp 269) = _ := sn46
           clear HCS HVS qs3 qs19 qs20 qs21
           first
            | (refine run_passed sn46 ?_; exact detK.mk)
            | (refine run_guarded sn46 ?_; unfold runs; go_simp; exact detK.mk)
          refine sure_det (js := [(49, 272), (46, 269)]) (ts := []) (gd := (some (269, false))) (place_at HVS.out (k := 50) rfl) (by rw [HCS.out]; kernel_rfl) ?_ ?_
          ·intro wx hx ρ hρ hs hf; have hρc := hρ.const; have hρf := hρ.func; obtain ⟨sn49, sn46, -⟩ := hs; rw [place_at HVS.out (k := 49) rfl] at sn49; replace sn49 : ρ (.tmp 272) = _ := sn49; rw [place_at HVS.out (k := 46) rfl] at sn46; replace sn46 : ρ (.tmp 269) = _ := sn46
           clear hf
           clear HCS HVS qs3 qs19 qs20 qs21
           first
            | (refine run_passed sn46 ?_; exact detK.mk)
            | (refine run_guarded sn46 ?_; obtain ⟨p0, p1, p2, p3, p4, -⟩ := hX wx hx.drawn; unfold runs; go_simp; exact detK.mk)
          refine sure_det (js := [(50, 273), (46, 269)]) (ts := []) (gd := (some (269, false))) (place_at HVS.out (k := 51) rfl) (by rw [HCS.out]; kernel_rfl) ?_ ?_
          ·intro wx hx ρ hρ hs hf; have hρc := hρ.const; have hρf := hρ.func; obtain ⟨sn50, sn46, -⟩ := hs; rw [place_at HVS.out (k := 50) rfl] at sn50; replace sn50 : ρ (.tmp 273) = _ := sn50; rw [place_at HVS.out (k := 46) rfl] at sn46; replace sn46 : ρ (.tmp 269) = _ := sn46
           clear hf
           clear HCS HVS qs3 qs19 qs20 qs21
           first
            | (refine run_passed sn46 ?_; exact detK.mk)
            | (refine run_guarded sn46 ?_; unfold runs; go_simp; exact detK.mk)
          refine sure_det (js := [(48, 271), (51, 274), (46, 269)]) (ts := []) (gd := (some (269, false))) (place_at HVS.out (k := 52) rfl) (by rw [HCS.out]; kernel_rfl) ?_ ?_
          ·intro wx hx ρ hρ hs hf; have hρc := hρ.const; have hρf := hρ.func; obtain ⟨sn48, sn51, sn46, -⟩ := hs; rw [place_at HVS.out (k := 48) rfl] at sn48; replace sn48 : ρ (.tmp 271) = _ := sn48; rw [place_at HVS.out (k := 51) rfl] at sn51; replace sn51 : ρ (.tmp 274) = _ := sn51; rw [place_at HVS.out (k := 46) rfl] at sn46; replace sn46 : ρ (.tmp 269) = _ := sn46
           clear hf
           clear HCS HVS qs3 qs19 qs20 qs21
           first
            | (refine run_passed sn46 ?_; exact detK.mk)
            | (refine run_guarded sn46 ?_; unfold runs; go_simp; exact detK.mk)
          refine sure_det (js := [(46, 269), (52, 275)]) (ts := []) (gd := none) (place_at HVS.out (k := 53) rfl) (by rw [HCS.out]; kernel_rfl) ?_ ?_
          ·intro wx hx ρ hρ hs hf; have hρc := hρ.const; have hρf := hρ.func; obtain ⟨sn46, sn52, -⟩ := hs; rw [place_at HVS.out (k := 46) rfl] at sn46; replace sn46 : ρ (.tmp 269) = _ := sn46; rw [place_at HVS.out (k := 52) rfl] at sn52; replace sn52 : ρ (.tmp 275) = _ := sn52
           clear hf
           clear HCS HVS qs3 qs19 qs20 qs21
           refine run_plain ?_
           first | refine op_pick_t rfl sn46 (hρ.const _) ?_ | refine op_pick_f rfl sn46 sn52 ?_
           exact detK.mk
          exact trivial
         case hend =>
          intro xs wx hx hg
          have gk0 : xs 0 = _ := goods_get hg (i := 0) (j := 0) (d := 223) rfl
          have gk1 : xs 1 = _ := goods_get hg (i := 1) (j := 1) (d := 224) rfl
          have gk2 : xs 2 = _ := goods_get hg (i := 2) (j := 2) (d := 225) rfl
          have gk3 : xs 3 = _ := goods_get hg (i := 3) (j := 3) (d := 226) rfl
          have gk4 : xs 4 = _ := goods_get hg (i := 4) (j := 4) (d := 227) rfl
          have gk5 : xs 5 = _ := goods_get hg (i := 5) (j := 5) (d := 228) rfl
          have gk6 : xs 6 = _ := goods_get hg (i := 6) (j := 6) (d := 229) rfl
          have gk7 : xs 7 = _ := goods_get hg (i := 7) (j := 7) (d := 230) rfl
          have gk8 : xs 8 = _ := goods_get hg (i := 8) (j := 8) (d := 231) rfl
          have gk9 : xs 9 = _ := goods_get hg (i := 9) (j := 9) (d := 232) rfl
          have gk10 : xs 10 = _ := goods_get hg (i := 10) (j := 10) (d := 233) rfl
          have gk11 : xs 11 = _ := goods_get hg (i := 11) (j := 11) (d := 234) rfl
          have gk12 : xs 12 = _ := goods_get hg (i := 12) (j := 12) (d := 235) rfl
          have gk13 : xs 13 = _ := goods_get hg (i := 13) (j := 13) (d := 236) rfl
          have gk14 : xs 14 = _ := goods_get hg (i := 14) (j := 14) (d := 237) rfl
          have gk15 : xs 15 = _ := goods_get hg (i := 15) (j := 15) (d := 238) rfl
          have gk16 : xs 16 = _ := goods_get hg (i := 16) (j := 16) (d := 239) rfl
          have gk17 : xs 17 = _ := goods_get hg (i := 17) (j := 17) (d := 240) rfl
          have gk18 : xs 18 = _ := goods_get hg (i := 18) (j := 18) (d := 241) rfl
          have gk19 : xs 19 = _ := goods_get hg (i := 19) (j := 19) (d := 242) rfl
          have gk20 : xs 20 = _ := goods_get hg (i := 20) (j := 20) (d := 243) rfl
          have gk21 : xs 21 = _ := goods_get hg (i := 21) (j := 21) (d := 244) rfl
          have gk22 : xs 22 = _ := goods_get hg (i := 22) (j := 22) (d := 245) rfl
          have gk23 : xs 23 = _ := goods_get hg (i := 23) (j := 23) (d := 246) rfl
          have gk24 : xs 24 = _ := goods_get hg (i := 24) (j := 24) (d := 247) rfl
          have gk25 : xs 25 = _ := goods_get hg (i := 25) (j := 25) (d := 248) rfl
          have gk26 : xs 26 = _ := goods_get hg (i := 26) (j := 26) (d := 249) rfl
          have gk27 : xs 27 = _ := goods_get hg (i := 27) (j := 27) (d := 250) rfl
          have gk28 : xs 28 = _ := goods_get hg (i := 28) (j := 28) (d := 251) rfl
          have gk29 : xs 29 = _ := goods_get hg (i := 29) (j := 29) (d := 252) rfl
          have gk30 : xs 30 = _ := goods_get hg (i := 30) (j := 30) (d := 253) rfl
          have gk31 : xs 31 = _ := goods_get hg (i := 31) (j := 31) (d := 254) rfl
          have gk32 : xs 32 = _ := goods_get hg (i := 32) (j := 32) (d := 255) rfl
          have gk33 : xs 33 = _ := goods_get hg (i := 33) (j := 33) (d := 256) rfl
          have gk34 : xs 34 = _ := goods_get hg (i := 34) (j := 34) (d := 257) rfl
          have gk35 : xs 35 = _ := goods_get hg (i := 35) (j := 35) (d := 258) rfl
          have gk36 : xs 36 = _ := goods_get hg (i := 36) (j := 36) (d := 259) rfl
          have gk37 : xs 37 = _ := goods_get hg (i := 37) (j := 37) (d := 260) rfl
          have gk38 : xs 38 = _ := goods_get hg (i := 38) (j := 38) (d := 261) rfl
          have gk39 : xs 39 = _ := goods_get hg (i := 39) (j := 39) (d := 262) rfl
          have gk40 : xs 40 = _ := goods_get hg (i := 40) (j := 40) (d := 263) rfl
          have gk41 : xs 41 = _ := goods_get hg (i := 41) (j := 41) (d := 264) rfl
          have gk42 : xs 42 = _ := goods_get hg (i := 42) (j := 42) (d := 265) rfl
          have gk43 : xs 43 = _ := goods_get hg (i := 43) (j := 43) (d := 266) rfl
          have gk44 : xs 44 = _ := goods_get hg (i := 44) (j := 44) (d := 267) rfl
          have gk45 : xs 45 = _ := goods_get hg (i := 45) (j := 45) (d := 268) rfl
          have gk46 : xs 46 = _ := goods_get hg (i := 46) (j := 46) (d := 269) rfl
          have gk47 : xs 47 = _ := goods_get hg (i := 47) (j := 47) (d := 270) rfl
          have gk48 : xs 48 = _ := goods_get hg (i := 48) (j := 48) (d := 271) rfl
          have gk49 : xs 49 = _ := goods_get hg (i := 49) (j := 49) (d := 272) rfl
          have gk50 : xs 50 = _ := goods_get hg (i := 50) (j := 50) (d := 273) rfl
          have gk51 : xs 51 = _ := goods_get hg (i := 51) (j := 51) (d := 274) rfl
          have gk52 : xs 52 = _ := goods_get hg (i := 52) (j := 52) (d := 275) rfl
          have gk53 : xs 53 = _ := goods_get hg (i := 53) (j := 53) (d := 276) rfl
          clear hg
          simp only [putAll, gk0, gk1, gk2, gk3, gk4, gk5, gk6, gk7, gk8, gk9, gk10, gk11, gk12, gk13, gk14, gk15, gk16, gk17, gk18, gk19, gk20, gk21, gk22, gk23, gk24, gk25, gk26, gk27, gk28, gk29, gk30, gk31, gk32, gk33, gk34, gk35, gk36, gk37, gk38, gk39, gk40, gk41, gk42, gk43, gk44, gk45, gk46, gk47, gk48, gk49, gk50, gk51, gk52, gk53]
          clear gk0 gk1 gk2 gk3 gk4 gk5 gk6 gk7 gk8 gk9 gk10 gk11 gk12 gk13 gk14 gk15 gk16 gk17 gk18 gk19 gk20 gk21 gk22 gk23 gk24 gk25 gk26 gk27 gk28 gk29 gk30 gk31 gk32 gk33 gk34 gk35 gk36 gk37 gk38 gk39 gk40 gk41 gk42 gk43 gk44 gk45 gk46 gk47 gk48 gk49 gk50 gk51 gk52 gk53
          clear xs
          simp only [Act.put, List.setIfInBounds_toArray, List.set_cons_zero, List.set_cons_succ]
          go_wp2
          go_roundw
          case rel => exact ⟨j + 1, by omega, by go_num, hxz.trans hx.drawn⟩
          case measure => simp [intOf]; omega
       ·obtain rfl : j = n1 := by omega
        have hini : ¬ (j : Int) < (j : Int) := by omega
        go_wp2
        go_roundw
        case rel => exact ⟨hxr, .inr (.inr (by go_num))⟩
        case measure => simp [intOf]
     ·have a0 : wr.cell? ⟨ga, 0, none⟩ = some (.int .u64 R) := hxo.cell (by simp [World.cell?, hda])
      have a1 : wr.cell? ⟨ga, 1, none⟩ = some (.slice (some aA) n1 c0) := hxo.cell (by simp [World.cell?, hda])
      have a2 : wr.cell? ⟨ga, 2, none⟩ = some (.slice A1 n1 c1) := hxo.cell (by simp [World.cell?, hda])
      go_wp2_with fail
      refine (dsetroot_any R nr _ _ n1 c0 n1 c1 _).mono ?_
      rintro e w9 ⟨rfl, hx9⟩
      replace hxo := hxo.trans hx9
      clear a0 a1 a2 hx9
      go_upto_region 32 with (fail)
      have hwa : Ext w9 (w9.alloc (.cells #[.int .u64 nr, .slice (some aA) n1 c0, .slice A1 n1 c1] 69)) := (Below.refl _ w9).alloc (Nat.le_refl _) _
      have hdz : (w9.alloc (.cells #[.int .u64 nr, .slice (some aA) n1 c0, .slice A1 n1 c1] 69)).heap[w9.heap.size]? = some (.cells #[.int .u64 nr, .slice (some aA) n1 c0, .slice A1 n1 c1] 69 (0, 0)) := heap_alloc_new w9 _
      replace hxo := hxo.trans hwa
      generalize w9.alloc (.cells #[.int .u64 nr, .slice (some aA) n1 c0, .slice A1 n1 c1] 69) = W9 at *
      generalize w9.heap.size = gz at *
      clear hwa
      have b0 : W9.cell? ⟨gz, 0, none⟩ = some (.int .u64 nr) := by simp [World.cell?, hdz]
      have b1 : W9.cell? ⟨gz, 1, none⟩ = some (.slice (some aA) n1 c0) := by simp [World.cell?, hdz]
      have b2 : W9.cell? ⟨gz, 2, none⟩ = some (.slice A1 n1 c1) := by simp [World.cell?, hdz]
      have a1 : W9.cell? ⟨ga, 1, none⟩ = some (.slice (some aA) n1 c0) := hxo.cell (by simp [World.cell?, hda])
      go_wp2_with fail
      refine (all_yes _ _ n1 c0 c0 l0 l0 _ ((h0.ext hW).ext hxo) ((h0.ext hW).ext hxo) rfl).mono ?_
      rintro e wa ⟨rfl, hxa⟩
      replace hdz := heap_ext hdz hxa
      replace hxo := hxo.trans hxa
      clear b0 b1 b2 a1 hxa
      have b2 : wa.cell? ⟨gz, 2, none⟩ = some (.slice A1 n1 c1) := by simp [World.cell?, hdz]
      have a2 : wa.cell? ⟨ga, 2, none⟩ = some (.slice A1 n1 c1) := hxo.cell (by simp [World.cell?, hda])
      go_wp2_with fail
      refine (all_yes _ _ n1 c1 c1 l1 l1 _ ((h1.ext hW).ext hxo) ((h1.ext hW).ext hxo) rfl).mono ?_
      rintro e wc ⟨rfl, hxc⟩
      replace hxo := hxo.trans hxc
      obtain ⟨aY, rfl, y0, y1, -⟩ := hY0.at hYk
      have y2 : wc.cell? ⟨gq, 1, none⟩ = some (.slice (some aY) n1 cy) := hxo.cell (by simp [World.cell?, hdq])
      replace y1 := hxo.cell y1
      clear b2 a2
      go_wp2
      go_ret
      exact ⟨rfl, hW.trans hxo⟩
end Go.Proofs.Ythgcpfofdbdkpaa
