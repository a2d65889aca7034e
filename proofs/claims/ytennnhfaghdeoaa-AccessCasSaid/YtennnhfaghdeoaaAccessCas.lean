/- Proved: the law AccessCas (a word is turned just if it is what was told, and then it is what was told for it; of two, one behind the other, told alike, the second one does nothing, unless both words are the same; a load behind tells the word) returns true at every input and turns none of its arguments. No condition. -/
import Derived.Test.YtennnhfaghdeoaaAccLaw
namespace Go.Proofs.Ytennnhfaghdeoaa
open Go.ChangeShapes Go.WideShapes Go.ChangeAt Go.RowKit

theorem inW_at {n K : Nat} (h : K < n) (k a b : Int) (d : List UInt8) (wd : List Int) (hk : 0 ≤ k ∧ k ≤ 4) : inW n ⟨k, (K : Int), a, b, d, wd⟩ = true := inW_iff.2 ⟨hk.1, hk.2, by simp only; omega, by simp only; omega⟩
theorem wordsK_at {ws : List Int} {K : Nat} (h : K < ws.length) (k a b : Int) (hk : 0 ≤ k ∧ k ≤ 4) : wordsK ws ⟨k, (K : Int), a, b, [], []⟩ = ws.set K (turnX k (ws.getD K 0) a b) := by
  rw [wordsK_in (inW_at h k a b [] [] hk)]; simp only [Int.toNat_natCast]
theorem wordsR_at {ws : List Int} {K : Nat} (h : K < ws.length) (k a b : Int) (hk : 0 ≤ k ∧ k ≤ 4) : wordsR ws ⟨k, (K : Int), a, b, [], []⟩ = ⟨turnN k (ws.getD K 0) a, [], false⟩ := by
  unfold wordsR; rw [inW_at h k a b [] [] hk]; simp only [Int.toNat_natCast, if_true]
theorem getD_set_at {ws : List Int} {K : Nat} (h : K < ws.length) (z : Int) : (ws.set K z).getD K 0 = z := by simp [List.getD_eq_getElem?_getD, h]
/-- two swaps told alike, and a load -/
theorem cas_plain {X0 X1 X2 : WldK} {R1 R2 R3 : ResK} {me a b : Int} {K : Nat} (hK : K < X0.ws.length) (h1 : doK X0 me ⟨2, (K : Int), a, b, [], []⟩ false = X1) (h2 : doK X1 me ⟨2, (K : Int), a, b, [], []⟩ false = X2)
    (r1 : doR X0 ⟨2, (K : Int), a, b, [], []⟩ false = R1) (r2 : doR X1 ⟨2, (K : Int), a, b, [], []⟩ false = R2) (r3 : doR X2 ⟨0, (K : Int), 0, 0, [], []⟩ true = R3) :
    R1.N = (if X0.ws.getD K 0 = a then 1 else 0) ∧ R2.N = (if X0.ws.getD K 0 = a ∧ a = b then 1 else 0) ∧ R3.N = (if X0.ws.getD K 0 = a then b else X0.ws.getD K 0) ∧ R3.fail = false := by
  rw [doK_word (by simp) (by simp)] at h1 h2
  rw [doR_word (by simp) (by simp)] at r1 r2 r3
  subst h1
  simp only at h2 r2
  rw [wordsK_at hK _ _ _ (by omega)] at h2 r2
  rw [wordsR_at hK _ _ _ (by omega)] at r1
  subst r1
  subst h2
  simp only at r3
  rw [wordsR_at (by simpa using hK) _ _ _ (by omega), getD_set_at hK] at r2
  subst r2
  rw [wordsK_at (by simpa using hK) _ _ _ (by omega), wordsR_at (by simpa using hK) _ _ _ (by omega), getD_set_at (by simpa using hK), getD_set_at hK] at r3
  subst r3
  generalize X0.ws.getD K 0 = old
  simp only [turnN, turnX]
  by_cases h : old = a
  · subst h
    by_cases h2 : old = b
    · subst h2; simp
    · have h3 : ¬ b = old := fun e => h2 e.symm
      simp [h2, h3]
  · simp [h]
set_option maxRecDepth 100000 in
set_option maxHeartbeats 4000000 in
theorem cas_walk (T C : Int) (A : Option Addr) (q c : Nat) (ws : List Int) (R : Int) (A0 A1 : Option Addr) (n0 c0 n1 c1 : Nat) (l0 l1 : List St) (me : Int) (iN : Nat) (a b : Int) (own : Bool) (w : World) (hP : WldP w A q c ws R A0 A1 n0 c0 n1 c1 l0 l1) (hi : iN < 65536) (ha : 0 ≤ a ∧ a < 18446744073709551616) (hb : 0 ≤ b ∧ b < 18446744073709551616) :
    Calls Try.prog 7 #[.agg #[.int .i64 T, .int .i64 C, .slice A q c, .int .u64 R, .slice A0 n0 c0, .slice A1 n1 c1, .int .i64 me, .int .u16 (iN : Int), .int .u64 a, .int .u64 b, .bool own]] w fun e w' => e = .returned (.bool true) ∧ Ext w w' := by
  have hqc := Nat.le_trans hP.words.le hP.words.cap
  simp only [maxLen] at hqc
  have ha2 : ∀ (W : World) (x y z u : Int), (Instr.build 42 #[(0, .int .i64 x), (1, .int .i64 y), (2, .int .u64 z), (3, .int .u64 u)]).run Try.prog W = .ok (.agg #[.int .i64 x, .int .i64 y, .int .u64 z, .int .u64 u, .slice none 0 0, .slice none 0 0]) W := fun _ _ _ _ _ => by kernel_rfl
  have ha1 : ∀ (W : World) (x y : Int), (Instr.build 42 #[(0, .int .i64 x), (1, .int .i64 y)]).run Try.prog W = .ok (.agg #[.int .i64 x, .int .i64 y, .int .u64 0, .int .u64 0, .slice none 0 0, .slice none 0 0]) W := fun _ _ _ => by kernel_rfl
  have hiw : IntKind.i64.wrap (iN : Int) = (iN : Int) := by rw [IntKind.wrap_i64]; omega
  have hir : Int.tmod (iN : Int) (q : Int) = ((iN % q : Nat) : Int) := by rw [Int.tmod_eq_emod_of_nonneg (by omega)]; omega
  have hW : Ext w (w.alloc (.cells #[.int .i64 T, .int .i64 C, .slice A q c, .int .u64 R, .slice A0 n0 c0, .slice A1 n1 c1, .int .i64 me, .int .u16 (iN : Int), .int .u64 a, .int .u64 b, .bool own] 81)) := (Below.refl _ w).alloc (Nat.le_refl _) _
  have hI := heap_alloc_new w (.cells #[.int .i64 T, .int .i64 C, .slice A q c, .int .u64 R, .slice A0 n0 c0, .slice A1 n1 c1, .int .i64 me, .int .u16 (iN : Int), .int .u64 a, .int .u64 b, .bool own] 81)
  go_enter Try.func7, Try.ntmps7
  go_upto_region 1 with (fail)
  generalize w.alloc (.cells #[.int .i64 T, .int .i64 C, .slice A q c, .int .u64 R, .slice A0 n0 c0, .slice A1 n1 c1, .int .i64 me, .int .u16 (iN : Int), .int .u64 a, .int .u64 b, .bool own] 81) = W0 at *
  generalize w.heap.size = g0 at *
  replace hP := hP.ext hW
  have i0 : W0.cell? ⟨g0, 0, none⟩ = some (.int .i64 T) := by simp [World.cell?, hI]
  have i1 : W0.cell? ⟨g0, 1, none⟩ = some (.int .i64 C) := by simp [World.cell?, hI]
  have i2 : W0.cell? ⟨g0, 2, none⟩ = some (.slice A q c) := by simp [World.cell?, hI]
  have i3 : W0.cell? ⟨g0, 3, none⟩ = some (.int .u64 R) := by simp [World.cell?, hI]
  have i4 : W0.cell? ⟨g0, 4, none⟩ = some (.slice A0 n0 c0) := by simp [World.cell?, hI]
  have i5 : W0.cell? ⟨g0, 5, none⟩ = some (.slice A1 n1 c1) := by simp [World.cell?, hI]
  have i6 : W0.cell? ⟨g0, 6, none⟩ = some (.int .i64 me) := by simp [World.cell?, hI]
  have i7 : W0.cell? ⟨g0, 7, none⟩ = some (.int .u16 (iN : Int)) := by simp [World.cell?, hI]
  have i8 : W0.cell? ⟨g0, 8, none⟩ = some (.int .u64 a) := by simp [World.cell?, hI]
  have i9 : W0.cell? ⟨g0, 9, none⟩ = some (.int .u64 b) := by simp [World.cell?, hI]
  have i10 : W0.cell? ⟨g0, 10, none⟩ = some (.bool own) := by simp [World.cell?, hI]
  go_upto_region 2 with (fail)
  have hx_ : Ext W0 (W0.alloc (.cells #[.int .i64 T, .int .i64 C, .slice A q c, .int .u64 R, .slice A0 n0 c0, .slice A1 n1 c1] 32)) := (Below.refl _ W0).alloc (Nat.le_refl _) _
  have hB := heap_alloc_new W0 (.cells #[.int .i64 T, .int .i64 C, .slice A q c, .int .u64 R, .slice A0 n0 c0, .slice A1 n1 c1] 32)
  generalize W0.alloc (.cells #[.int .i64 T, .int .i64 C, .slice A q c, .int .u64 R, .slice A0 n0 c0, .slice A1 n1 c1] 32) = W1 at *
  generalize W0.heap.size = gw at *
  clear i0 i1 i2 i3 i4 i5 i6 i7 i8 i9 i10
  replace hI := heap_ext hI hx_
  replace hP := hP.ext hx_
  replace hW := hW.trans hx_
  clear hx_
  have i0 : W1.cell? ⟨g0, 0, none⟩ = some (.int .i64 T) := by simp [World.cell?, hI]
  have i1 : W1.cell? ⟨g0, 1, none⟩ = some (.int .i64 C) := by simp [World.cell?, hI]
  have i2 : W1.cell? ⟨g0, 2, none⟩ = some (.slice A q c) := by simp [World.cell?, hI]
  have i3 : W1.cell? ⟨g0, 3, none⟩ = some (.int .u64 R) := by simp [World.cell?, hI]
  have i4 : W1.cell? ⟨g0, 4, none⟩ = some (.slice A0 n0 c0) := by simp [World.cell?, hI]
  have i5 : W1.cell? ⟨g0, 5, none⟩ = some (.slice A1 n1 c1) := by simp [World.cell?, hI]
  have i6 : W1.cell? ⟨g0, 6, none⟩ = some (.int .i64 me) := by simp [World.cell?, hI]
  have i7 : W1.cell? ⟨g0, 7, none⟩ = some (.int .u16 (iN : Int)) := by simp [World.cell?, hI]
  have i8 : W1.cell? ⟨g0, 8, none⟩ = some (.int .u64 a) := by simp [World.cell?, hI]
  have i9 : W1.cell? ⟨g0, 9, none⟩ = some (.int .u64 b) := by simp [World.cell?, hI]
  have i10 : W1.cell? ⟨g0, 10, none⟩ = some (.bool own) := by simp [World.cell?, hI]
  go_upto_region 7 with (fail)
  clear i0 i1 i2 i3 i4 i5 i6 i7 i8 i9 i10
  go_wp2_with fail
  refine (shown10_any _).mono ?_
  rintro e W2 ⟨rfl, hx⟩
  replace hI := heap_ext hI hx
  replace hB := heap_ext hB hx
  replace hP := hP.ext hx
  replace hW := hW.trans hx
  clear hx
  have e0 : W2.cell? ⟨gw, 0, none⟩ = some (.int .i64 T) := by simp [World.cell?, hB]
  have e1 : W2.cell? ⟨gw, 1, none⟩ = some (.int .i64 C) := by simp [World.cell?, hB]
  have e2 : W2.cell? ⟨gw, 2, none⟩ = some (.slice A q c) := by simp [World.cell?, hB]
  have e3 : W2.cell? ⟨gw, 3, none⟩ = some (.int .u64 R) := by simp [World.cell?, hB]
  have e4 : W2.cell? ⟨gw, 4, none⟩ = some (.slice A0 n0 c0) := by simp [World.cell?, hB]
  have e5 : W2.cell? ⟨gw, 5, none⟩ = some (.slice A1 n1 c1) := by simp [World.cell?, hB]
  go_wp2_with fail
  refine (small_any T C A q c R A0 A1 n0 c0 n1 c1 l0 l1 me _ hP.row0 hP.row1 (by omega) hP.z0 hP.z1).mono ?_
  rintro e W3 ⟨⟨sm, rfl, hsm⟩, hx⟩
  clear e0 e1 e2 e3 e4 e5
  replace hI := heap_ext hI hx
  replace hB := heap_ext hB hx
  replace hP := hP.ext hx
  replace hW := hW.trans hx
  clear hx
  cases sm
  · go_wp2
    go_ret
    exact ⟨rfl, hW⟩
  have hS := hsm rfl
  clear hsm
  obtain ⟨rfl, hnT, hmay, hqq, hF, hV⟩ := hP.small hS.right hS.sum hS.q6
  have hwd := hP.words
  have hwq := hP.words.len
  have hq6 := hS.q6
  clear hS hP
  have hq0 : ¬ (q : Int) = 0 := by omega
  have hKq : iN % q < q := Nat.mod_lt _ (by omega)
  generalize iN % q = K at *
  clear hqq hnT
  generalize hX0 : (⟨T, C, ws, R, n1, l0.map St.key, l1.map St.key⟩ : WldK) = X0 at *
  have hXw : X0.ws = ws := by rw [← hX0]
  have hKX : K < X0.ws.length := by rw [hXw, hwq]; exact hKq
  obtain ⟨a0, rfl, hac, hr1, hr2⟩ := hwd.at hKq
  generalize hold : ws.getD K 0 = old at *
  have e0 : W3.cell? ⟨gw, 0, none⟩ = some (.int .i64 T) := by simp [World.cell?, hB]
  have e1 : W3.cell? ⟨gw, 1, none⟩ = some (.int .i64 C) := by simp [World.cell?, hB]
  have e2 : W3.cell? ⟨gw, 2, none⟩ = some (.slice (some a0) q c) := by simp [World.cell?, hB]
  have e3 : W3.cell? ⟨gw, 3, none⟩ = some (.int .u64 R) := by simp [World.cell?, hB]
  have e4 : W3.cell? ⟨gw, 4, none⟩ = some (.slice A0 n1 c0) := by simp [World.cell?, hB]
  have e5 : W3.cell? ⟨gw, 5, none⟩ = some (.slice A1 n1 c1) := by simp [World.cell?, hB]
  cases own
  · go_upto_region 13 with (fail)
    go_wp2_with fail
    refine (do_all _ _ X0 me ⟨2, (K : Int), a, b, [], []⟩ false _ hV ⟨none, 0, 0, none, 0, 0, rfl, bytes_nil _, words_nil _, ha, hb⟩ (useM_word (A := ⟨2, (K : Int), a, b, [], []⟩) (by simp) ▸ hF.le_ (by omega))).mono ?_
    rintro e u1 ⟨v1, r1, rfl, hV1, hR1, hu_⟩
    generalize hX1 : doK X0 me ⟨2, (K : Int), a, b, [], []⟩ false = X1 at hV1
    generalize hY1 : doR X0 ⟨2, (K : Int), a, b, [], []⟩ false = R1 at hR1
    have hX1 := Lib.hid hX1
    have hY1 := Lib.hid hY1
    have hV1_ := hV1
    have hR1_ := hR1
    obtain ⟨xA1, xq1, xc1, xB1, xC1, xb1, xd1, rfl, hw1, hd1⟩ := hV1_
    obtain ⟨yS1, ys1, yt1, rfl, hs1⟩ := hR1_
    clear e0 e1 e2 e3 e4 e5
    replace hI := heap_ext hI hu_
    replace hB := heap_ext hB hu_
    replace hV := hV.ext hu_
    replace hwd := hwd.ext hu_
    replace hW := hW.trans hu_
    clear hu_
    go_upto_region 14 with (fail)
    obtain ⟨hx_, hbx1, hrx1⟩ := two_boxes7 u1 (.cells #[.int .i64 X1.T, .int .i64 X1.C, .slice xA1 xq1 xc1, .int .u64 X1.R, .slice xB1 X1.n xb1, .slice xC1 X1.n xd1] 32) (.cells #[.int .u64 R1.N, .slice yS1 ys1 yt1, .bool R1.fail] 51)
    generalize (u1.alloc (.cells #[.int .i64 X1.T, .int .i64 X1.C, .slice xA1 xq1 xc1, .int .u64 X1.R, .slice xB1 X1.n xb1, .slice xC1 X1.n xd1] 32)).alloc (.cells #[.int .u64 R1.N, .slice yS1 ys1 yt1, .bool R1.fail] 51) = U1 at *
    generalize u1.heap.size = g1 at *
    replace hI := heap_ext hI hx_
    replace hB := heap_ext hB hx_
    replace hV := hV.ext hx_
    replace hwd := hwd.ext hx_
    replace hV1 := hV1.ext hx_
    replace hR1 := hR1.ext hx_
    replace hw1 := hw1.ext hx_
    replace hs1 := hs1.ext hx_
    replace hW := hW.trans hx_
    clear hx_
    have hF1 : Fit X1 0 := hX1.out ▸ ((hF.le_ (Nat.zero_le _)).word (by simp) (by simp))
    have e0 : U1.cell? ⟨g1, 0, none⟩ = some (.int .i64 X1.T) := by simp [World.cell?, hbx1]
    have e1 : U1.cell? ⟨g1, 1, none⟩ = some (.int .i64 X1.C) := by simp [World.cell?, hbx1]
    have e2 : U1.cell? ⟨g1, 2, none⟩ = some (.slice xA1 xq1 xc1) := by simp [World.cell?, hbx1]
    have e3 : U1.cell? ⟨g1, 3, none⟩ = some (.int .u64 X1.R) := by simp [World.cell?, hbx1]
    have e4 : U1.cell? ⟨g1, 4, none⟩ = some (.slice xB1 X1.n xb1) := by simp [World.cell?, hbx1]
    have e5 : U1.cell? ⟨g1, 5, none⟩ = some (.slice xC1 X1.n xd1) := by simp [World.cell?, hbx1]
    go_wp2_with fail
    refine (do_all _ _ X1 me ⟨2, (K : Int), a, b, [], []⟩ false _ hV1 ⟨none, 0, 0, none, 0, 0, rfl, bytes_nil _, words_nil _, ha, hb⟩ (useM_word (A := ⟨2, (K : Int), a, b, [], []⟩) (by simp) ▸ hF1)).mono ?_
    rintro e u2 ⟨v2, r2, rfl, hV2, hR2, hu_⟩
    generalize hX2 : doK X1 me ⟨2, (K : Int), a, b, [], []⟩ false = X2 at hV2
    generalize hY2 : doR X1 ⟨2, (K : Int), a, b, [], []⟩ false = R2 at hR2
    have hX2 := Lib.hid hX2
    have hY2 := Lib.hid hY2
    have hV2_ := hV2
    have hR2_ := hR2
    obtain ⟨xA2, xq2, xc2, xB2, xC2, xb2, xd2, rfl, hw2, hd2⟩ := hV2_
    obtain ⟨yS2, ys2, yt2, rfl, hs2⟩ := hR2_
    clear e0 e1 e2 e3 e4 e5
    replace hI := heap_ext hI hu_
    replace hB := heap_ext hB hu_
    replace hbx1 := heap_ext hbx1 hu_
    replace hrx1 := heap_ext hrx1 hu_
    replace hV := hV.ext hu_
    replace hwd := hwd.ext hu_
    replace hV1 := hV1.ext hu_
    replace hR1 := hR1.ext hu_
    replace hw1 := hw1.ext hu_
    replace hs1 := hs1.ext hu_
    replace hW := hW.trans hu_
    clear hu_
    go_upto_region 15 with (fail)
    obtain ⟨hx_, hbx2, hrx2⟩ := two_boxes7 u2 (.cells #[.int .i64 X2.T, .int .i64 X2.C, .slice xA2 xq2 xc2, .int .u64 X2.R, .slice xB2 X2.n xb2, .slice xC2 X2.n xd2] 32) (.cells #[.int .u64 R2.N, .slice yS2 ys2 yt2, .bool R2.fail] 51)
    generalize (u2.alloc (.cells #[.int .i64 X2.T, .int .i64 X2.C, .slice xA2 xq2 xc2, .int .u64 X2.R, .slice xB2 X2.n xb2, .slice xC2 X2.n xd2] 32)).alloc (.cells #[.int .u64 R2.N, .slice yS2 ys2 yt2, .bool R2.fail] 51) = U2 at *
    generalize u2.heap.size = g2 at *
    replace hI := heap_ext hI hx_
    replace hB := heap_ext hB hx_
    replace hbx1 := heap_ext hbx1 hx_
    replace hrx1 := heap_ext hrx1 hx_
    replace hV := hV.ext hx_
    replace hwd := hwd.ext hx_
    replace hV1 := hV1.ext hx_
    replace hR1 := hR1.ext hx_
    replace hw1 := hw1.ext hx_
    replace hs1 := hs1.ext hx_
    replace hV2 := hV2.ext hx_
    replace hR2 := hR2.ext hx_
    replace hw2 := hw2.ext hx_
    replace hs2 := hs2.ext hx_
    replace hW := hW.trans hx_
    clear hx_
    have hF2 : Fit X2 0 := hX2.out ▸ (hF1.word (by simp) (by simp))
    have e0 : U2.cell? ⟨g2, 0, none⟩ = some (.int .i64 X2.T) := by simp [World.cell?, hbx2]
    have e1 : U2.cell? ⟨g2, 1, none⟩ = some (.int .i64 X2.C) := by simp [World.cell?, hbx2]
    have e2 : U2.cell? ⟨g2, 2, none⟩ = some (.slice xA2 xq2 xc2) := by simp [World.cell?, hbx2]
    have e3 : U2.cell? ⟨g2, 3, none⟩ = some (.int .u64 X2.R) := by simp [World.cell?, hbx2]
    have e4 : U2.cell? ⟨g2, 4, none⟩ = some (.slice xB2 X2.n xb2) := by simp [World.cell?, hbx2]
    have e5 : U2.cell? ⟨g2, 5, none⟩ = some (.slice xC2 X2.n xd2) := by simp [World.cell?, hbx2]
    go_wp2_with fail
    refine (do_all _ _ X2 me ⟨0, (K : Int), 0, 0, [], []⟩ true _ hV2 ⟨none, 0, 0, none, 0, 0, rfl, bytes_nil _, words_nil _, by simp, by simp⟩ (useM_word (A := ⟨0, (K : Int), 0, 0, [], []⟩) (by simp) ▸ hF2)).mono ?_
    rintro e u3 ⟨v3, r3, rfl, hV3, hR3, hu_⟩
    generalize hX3 : doK X2 me ⟨0, (K : Int), 0, 0, [], []⟩ true = X3 at hV3
    generalize hY3 : doR X2 ⟨0, (K : Int), 0, 0, [], []⟩ true = R3 at hR3
    have hX3 := Lib.hid hX3
    have hY3 := Lib.hid hY3
    have hV3_ := hV3
    have hR3_ := hR3
    obtain ⟨xA3, xq3, xc3, xB3, xC3, xb3, xd3, rfl, hw3, hd3⟩ := hV3_
    obtain ⟨yS3, ys3, yt3, rfl, hs3⟩ := hR3_
    clear e0 e1 e2 e3 e4 e5
    replace hI := heap_ext hI hu_
    replace hB := heap_ext hB hu_
    replace hbx1 := heap_ext hbx1 hu_
    replace hrx1 := heap_ext hrx1 hu_
    replace hbx2 := heap_ext hbx2 hu_
    replace hrx2 := heap_ext hrx2 hu_
    replace hV := hV.ext hu_
    replace hwd := hwd.ext hu_
    replace hV1 := hV1.ext hu_
    replace hR1 := hR1.ext hu_
    replace hw1 := hw1.ext hu_
    replace hs1 := hs1.ext hu_
    replace hV2 := hV2.ext hu_
    replace hR2 := hR2.ext hu_
    replace hw2 := hw2.ext hu_
    replace hs2 := hs2.ext hu_
    replace hW := hW.trans hu_
    clear hu_
    go_upto_region 16 with (fail)
    obtain ⟨hx_, hbx3, hrx3⟩ := two_boxes7 u3 (.cells #[.int .i64 X3.T, .int .i64 X3.C, .slice xA3 xq3 xc3, .int .u64 X3.R, .slice xB3 X3.n xb3, .slice xC3 X3.n xd3] 32) (.cells #[.int .u64 R3.N, .slice yS3 ys3 yt3, .bool R3.fail] 51)
    generalize (u3.alloc (.cells #[.int .i64 X3.T, .int .i64 X3.C, .slice xA3 xq3 xc3, .int .u64 X3.R, .slice xB3 X3.n xb3, .slice xC3 X3.n xd3] 32)).alloc (.cells #[.int .u64 R3.N, .slice yS3 ys3 yt3, .bool R3.fail] 51) = U3 at *
    generalize u3.heap.size = g3 at *
    replace hI := heap_ext hI hx_
    replace hB := heap_ext hB hx_
    replace hbx1 := heap_ext hbx1 hx_
    replace hrx1 := heap_ext hrx1 hx_
    replace hbx2 := heap_ext hbx2 hx_
    replace hrx2 := heap_ext hrx2 hx_
    replace hV := hV.ext hx_
    replace hwd := hwd.ext hx_
    replace hV1 := hV1.ext hx_
    replace hR1 := hR1.ext hx_
    replace hw1 := hw1.ext hx_
    replace hs1 := hs1.ext hx_
    replace hV2 := hV2.ext hx_
    replace hR2 := hR2.ext hx_
    replace hw2 := hw2.ext hx_
    replace hs2 := hs2.ext hx_
    replace hV3 := hV3.ext hx_
    replace hR3 := hR3.ext hx_
    replace hw3 := hw3.ext hx_
    replace hs3 := hs3.ext hx_
    replace hW := hW.trans hx_
    clear hx_
    obtain ⟨e1, e2, e3, e4⟩ := cas_plain hKX hX1.out hX2.out hY1.out hY2.out hY3.out
    rw [hXw, hold] at e1 e2 e3
    rw [e1] at hrx1
    rw [e2] at hrx2
    rw [e3, e4] at hrx3
    clear hX1 hX2 hX3 hY1 hY2 hY3 hF hF1 hF2 e1 e2 e3 e4
    obtain ⟨a0', ha0', hac', -, -⟩ := hwd.at hKq
    obtain rfl : a0 = a0' := Option.some.inj ha0'
    rw [hold] at hac'
    have e0 : U3.cell? ⟨gw, 0, none⟩ = some (.int .i64 T) := by simp [World.cell?, hB]
    have e1 : U3.cell? ⟨gw, 1, none⟩ = some (.int .i64 C) := by simp [World.cell?, hB]
    have e2 : U3.cell? ⟨gw, 2, none⟩ = some (.slice (some a0) q c) := by simp [World.cell?, hB]
    have e3 : U3.cell? ⟨gw, 3, none⟩ = some (.int .u64 R) := by simp [World.cell?, hB]
    have e4 : U3.cell? ⟨gw, 4, none⟩ = some (.slice A0 n1 c0) := by simp [World.cell?, hB]
    have e5 : U3.cell? ⟨gw, 5, none⟩ = some (.slice A1 n1 c1) := by simp [World.cell?, hB]
    by_cases h1 : old = a
    · subst h1
      rw [if_pos rfl] at hrx1 hrx3
      by_cases h2 : old = b
      · subst h2
        rw [if_pos ⟨rfl, rfl⟩] at hrx2
        have x0 : U3.cell? ⟨g1 + 1, 0, none⟩ = some (.int .u64 1) := by simp [World.cell?, hrx1]
        have y0 : U3.cell? ⟨g2 + 1, 0, none⟩ = some (.int .u64 1) := by simp [World.cell?, hrx2]
        have z0 : U3.cell? ⟨g3 + 1, 0, none⟩ = some (.int .u64 old) := by simp [World.cell?, hrx3]
        have z2 : U3.cell? ⟨g3 + 1, 2, none⟩ = some (.bool false) := by simp [World.cell?, hrx3]
        go_wp2
        go_ret
        exact ⟨rfl, hW⟩
      · rw [if_neg (fun h => h2 h.2)] at hrx2
        have h3 : (old == b) = false := by simpa using h2
        have x0 : U3.cell? ⟨g1 + 1, 0, none⟩ = some (.int .u64 1) := by simp [World.cell?, hrx1]
        have y0 : U3.cell? ⟨g2 + 1, 0, none⟩ = some (.int .u64 0) := by simp [World.cell?, hrx2]
        have z0 : U3.cell? ⟨g3 + 1, 0, none⟩ = some (.int .u64 b) := by simp [World.cell?, hrx3]
        have z2 : U3.cell? ⟨g3 + 1, 2, none⟩ = some (.bool false) := by simp [World.cell?, hrx3]
        go_wp2
        go_ret
        exact ⟨rfl, hW⟩
    · rw [if_neg h1] at hrx1 hrx3
      rw [if_neg (fun h => h1 h.1)] at hrx2
      have h3 : (old == a) = false := by simpa using h1
      have x0 : U3.cell? ⟨g1 + 1, 0, none⟩ = some (.int .u64 0) := by simp [World.cell?, hrx1]
      have y0 : U3.cell? ⟨g2 + 1, 0, none⟩ = some (.int .u64 0) := by simp [World.cell?, hrx2]
      have z0 : U3.cell? ⟨g3 + 1, 0, none⟩ = some (.int .u64 old) := by simp [World.cell?, hrx3]
      have z2 : U3.cell? ⟨g3 + 1, 2, none⟩ = some (.bool false) := by simp [World.cell?, hrx3]
      go_wp2
      go_ret
      exact ⟨rfl, hW⟩
  · go_upto_region 12 with (fail)
    go_upto_region 13 with (fail)
    go_wp2_with fail
    refine (do_all _ _ X0 me ⟨2, (K : Int), old, b, [], []⟩ false _ hV ⟨none, 0, 0, none, 0, 0, rfl, bytes_nil _, words_nil _, ⟨hr1, hr2⟩, hb⟩ (useM_word (A := ⟨2, (K : Int), old, b, [], []⟩) (by simp) ▸ hF.le_ (by omega))).mono ?_
    rintro e u1 ⟨v1, r1, rfl, hV1, hR1, hu_⟩
    generalize hX1 : doK X0 me ⟨2, (K : Int), old, b, [], []⟩ false = X1 at hV1
    generalize hY1 : doR X0 ⟨2, (K : Int), old, b, [], []⟩ false = R1 at hR1
    have hX1 := Lib.hid hX1
    have hY1 := Lib.hid hY1
    have hV1_ := hV1
    have hR1_ := hR1
    obtain ⟨xA1, xq1, xc1, xB1, xC1, xb1, xd1, rfl, hw1, hd1⟩ := hV1_
    obtain ⟨yS1, ys1, yt1, rfl, hs1⟩ := hR1_
    clear e0 e1 e2 e3 e4 e5
    replace hI := heap_ext hI hu_
    replace hB := heap_ext hB hu_
    replace hV := hV.ext hu_
    replace hwd := hwd.ext hu_
    replace hW := hW.trans hu_
    clear hu_
    go_upto_region 14 with (fail)
    obtain ⟨hx_, hbx1, hrx1⟩ := two_boxes7 u1 (.cells #[.int .i64 X1.T, .int .i64 X1.C, .slice xA1 xq1 xc1, .int .u64 X1.R, .slice xB1 X1.n xb1, .slice xC1 X1.n xd1] 32) (.cells #[.int .u64 R1.N, .slice yS1 ys1 yt1, .bool R1.fail] 51)
    generalize (u1.alloc (.cells #[.int .i64 X1.T, .int .i64 X1.C, .slice xA1 xq1 xc1, .int .u64 X1.R, .slice xB1 X1.n xb1, .slice xC1 X1.n xd1] 32)).alloc (.cells #[.int .u64 R1.N, .slice yS1 ys1 yt1, .bool R1.fail] 51) = U1 at *
    generalize u1.heap.size = g1 at *
    replace hI := heap_ext hI hx_
    replace hB := heap_ext hB hx_
    replace hV := hV.ext hx_
    replace hwd := hwd.ext hx_
    replace hV1 := hV1.ext hx_
    replace hR1 := hR1.ext hx_
    replace hw1 := hw1.ext hx_
    replace hs1 := hs1.ext hx_
    replace hW := hW.trans hx_
    clear hx_
    have hF1 : Fit X1 0 := hX1.out ▸ ((hF.le_ (Nat.zero_le _)).word (by simp) (by simp))
    have e0 : U1.cell? ⟨g1, 0, none⟩ = some (.int .i64 X1.T) := by simp [World.cell?, hbx1]
    have e1 : U1.cell? ⟨g1, 1, none⟩ = some (.int .i64 X1.C) := by simp [World.cell?, hbx1]
    have e2 : U1.cell? ⟨g1, 2, none⟩ = some (.slice xA1 xq1 xc1) := by simp [World.cell?, hbx1]
    have e3 : U1.cell? ⟨g1, 3, none⟩ = some (.int .u64 X1.R) := by simp [World.cell?, hbx1]
    have e4 : U1.cell? ⟨g1, 4, none⟩ = some (.slice xB1 X1.n xb1) := by simp [World.cell?, hbx1]
    have e5 : U1.cell? ⟨g1, 5, none⟩ = some (.slice xC1 X1.n xd1) := by simp [World.cell?, hbx1]
    go_wp2_with fail
    refine (do_all _ _ X1 me ⟨2, (K : Int), old, b, [], []⟩ false _ hV1 ⟨none, 0, 0, none, 0, 0, rfl, bytes_nil _, words_nil _, ⟨hr1, hr2⟩, hb⟩ (useM_word (A := ⟨2, (K : Int), old, b, [], []⟩) (by simp) ▸ hF1)).mono ?_
    rintro e u2 ⟨v2, r2, rfl, hV2, hR2, hu_⟩
    generalize hX2 : doK X1 me ⟨2, (K : Int), old, b, [], []⟩ false = X2 at hV2
    generalize hY2 : doR X1 ⟨2, (K : Int), old, b, [], []⟩ false = R2 at hR2
    have hX2 := Lib.hid hX2
    have hY2 := Lib.hid hY2
    have hV2_ := hV2
    have hR2_ := hR2
    obtain ⟨xA2, xq2, xc2, xB2, xC2, xb2, xd2, rfl, hw2, hd2⟩ := hV2_
    obtain ⟨yS2, ys2, yt2, rfl, hs2⟩ := hR2_
    clear e0 e1 e2 e3 e4 e5
    replace hI := heap_ext hI hu_
    replace hB := heap_ext hB hu_
    replace hbx1 := heap_ext hbx1 hu_
    replace hrx1 := heap_ext hrx1 hu_
    replace hV := hV.ext hu_
    replace hwd := hwd.ext hu_
    replace hV1 := hV1.ext hu_
    replace hR1 := hR1.ext hu_
    replace hw1 := hw1.ext hu_
    replace hs1 := hs1.ext hu_
    replace hW := hW.trans hu_
    clear hu_
    go_upto_region 15 with (fail)
    obtain ⟨hx_, hbx2, hrx2⟩ := two_boxes7 u2 (.cells #[.int .i64 X2.T, .int .i64 X2.C, .slice xA2 xq2 xc2, .int .u64 X2.R, .slice xB2 X2.n xb2, .slice xC2 X2.n xd2] 32) (.cells #[.int .u64 R2.N, .slice yS2 ys2 yt2, .bool R2.fail] 51)
    generalize (u2.alloc (.cells #[.int .i64 X2.T, .int .i64 X2.C, .slice xA2 xq2 xc2, .int .u64 X2.R, .slice xB2 X2.n xb2, .slice xC2 X2.n xd2] 32)).alloc (.cells #[.int .u64 R2.N, .slice yS2 ys2 yt2, .bool R2.fail] 51) = U2 at *
    generalize u2.heap.size = g2 at *
    replace hI := heap_ext hI hx_
    replace hB := heap_ext hB hx_
    replace hbx1 := heap_ext hbx1 hx_
    replace hrx1 := heap_ext hrx1 hx_
    replace hV := hV.ext hx_
    replace hwd := hwd.ext hx_
    replace hV1 := hV1.ext hx_
    replace hR1 := hR1.ext hx_
    replace hw1 := hw1.ext hx_
    replace hs1 := hs1.ext hx_
    replace hV2 := hV2.ext hx_
    replace hR2 := hR2.ext hx_
    replace hw2 := hw2.ext hx_
    replace hs2 := hs2.ext hx_
    replace hW := hW.trans hx_
    clear hx_
    have hF2 : Fit X2 0 := hX2.out ▸ (hF1.word (by simp) (by simp))
    have e0 : U2.cell? ⟨g2, 0, none⟩ = some (.int .i64 X2.T) := by simp [World.cell?, hbx2]
    have e1 : U2.cell? ⟨g2, 1, none⟩ = some (.int .i64 X2.C) := by simp [World.cell?, hbx2]
    have e2 : U2.cell? ⟨g2, 2, none⟩ = some (.slice xA2 xq2 xc2) := by simp [World.cell?, hbx2]
    have e3 : U2.cell? ⟨g2, 3, none⟩ = some (.int .u64 X2.R) := by simp [World.cell?, hbx2]
    have e4 : U2.cell? ⟨g2, 4, none⟩ = some (.slice xB2 X2.n xb2) := by simp [World.cell?, hbx2]
    have e5 : U2.cell? ⟨g2, 5, none⟩ = some (.slice xC2 X2.n xd2) := by simp [World.cell?, hbx2]
    go_wp2_with fail
    refine (do_all _ _ X2 me ⟨0, (K : Int), 0, 0, [], []⟩ true _ hV2 ⟨none, 0, 0, none, 0, 0, rfl, bytes_nil _, words_nil _, by simp, by simp⟩ (useM_word (A := ⟨0, (K : Int), 0, 0, [], []⟩) (by simp) ▸ hF2)).mono ?_
    rintro e u3 ⟨v3, r3, rfl, hV3, hR3, hu_⟩
    generalize hX3 : doK X2 me ⟨0, (K : Int), 0, 0, [], []⟩ true = X3 at hV3
    generalize hY3 : doR X2 ⟨0, (K : Int), 0, 0, [], []⟩ true = R3 at hR3
    have hX3 := Lib.hid hX3
    have hY3 := Lib.hid hY3
    have hV3_ := hV3
    have hR3_ := hR3
    obtain ⟨xA3, xq3, xc3, xB3, xC3, xb3, xd3, rfl, hw3, hd3⟩ := hV3_
    obtain ⟨yS3, ys3, yt3, rfl, hs3⟩ := hR3_
    clear e0 e1 e2 e3 e4 e5
    replace hI := heap_ext hI hu_
    replace hB := heap_ext hB hu_
    replace hbx1 := heap_ext hbx1 hu_
    replace hrx1 := heap_ext hrx1 hu_
    replace hbx2 := heap_ext hbx2 hu_
    replace hrx2 := heap_ext hrx2 hu_
    replace hV := hV.ext hu_
    replace hwd := hwd.ext hu_
    replace hV1 := hV1.ext hu_
    replace hR1 := hR1.ext hu_
    replace hw1 := hw1.ext hu_
    replace hs1 := hs1.ext hu_
    replace hV2 := hV2.ext hu_
    replace hR2 := hR2.ext hu_
    replace hw2 := hw2.ext hu_
    replace hs2 := hs2.ext hu_
    replace hW := hW.trans hu_
    clear hu_
    go_upto_region 16 with (fail)
    obtain ⟨hx_, hbx3, hrx3⟩ := two_boxes7 u3 (.cells #[.int .i64 X3.T, .int .i64 X3.C, .slice xA3 xq3 xc3, .int .u64 X3.R, .slice xB3 X3.n xb3, .slice xC3 X3.n xd3] 32) (.cells #[.int .u64 R3.N, .slice yS3 ys3 yt3, .bool R3.fail] 51)
    generalize (u3.alloc (.cells #[.int .i64 X3.T, .int .i64 X3.C, .slice xA3 xq3 xc3, .int .u64 X3.R, .slice xB3 X3.n xb3, .slice xC3 X3.n xd3] 32)).alloc (.cells #[.int .u64 R3.N, .slice yS3 ys3 yt3, .bool R3.fail] 51) = U3 at *
    generalize u3.heap.size = g3 at *
    replace hI := heap_ext hI hx_
    replace hB := heap_ext hB hx_
    replace hbx1 := heap_ext hbx1 hx_
    replace hrx1 := heap_ext hrx1 hx_
    replace hbx2 := heap_ext hbx2 hx_
    replace hrx2 := heap_ext hrx2 hx_
    replace hV := hV.ext hx_
    replace hwd := hwd.ext hx_
    replace hV1 := hV1.ext hx_
    replace hR1 := hR1.ext hx_
    replace hw1 := hw1.ext hx_
    replace hs1 := hs1.ext hx_
    replace hV2 := hV2.ext hx_
    replace hR2 := hR2.ext hx_
    replace hw2 := hw2.ext hx_
    replace hs2 := hs2.ext hx_
    replace hV3 := hV3.ext hx_
    replace hR3 := hR3.ext hx_
    replace hw3 := hw3.ext hx_
    replace hs3 := hs3.ext hx_
    replace hW := hW.trans hx_
    clear hx_
    obtain ⟨e1, e2, e3, e4⟩ := cas_plain hKX hX1.out hX2.out hY1.out hY2.out hY3.out
    rw [hXw, hold] at e1 e2 e3
    rw [if_pos rfl] at e1 e3
    rw [e1] at hrx1
    rw [e2] at hrx2
    rw [e3, e4] at hrx3
    clear hX1 hX2 hX3 hY1 hY2 hY3 hF hF1 hF2 e1 e2 e3 e4
    obtain ⟨a0', ha0', hac', -, -⟩ := hwd.at hKq
    obtain rfl : a0 = a0' := Option.some.inj ha0'
    rw [hold] at hac'
    have e0 : U3.cell? ⟨gw, 0, none⟩ = some (.int .i64 T) := by simp [World.cell?, hB]
    have e1 : U3.cell? ⟨gw, 1, none⟩ = some (.int .i64 C) := by simp [World.cell?, hB]
    have e2 : U3.cell? ⟨gw, 2, none⟩ = some (.slice (some a0) q c) := by simp [World.cell?, hB]
    have e3 : U3.cell? ⟨gw, 3, none⟩ = some (.int .u64 R) := by simp [World.cell?, hB]
    have e4 : U3.cell? ⟨gw, 4, none⟩ = some (.slice A0 n1 c0) := by simp [World.cell?, hB]
    have e5 : U3.cell? ⟨gw, 5, none⟩ = some (.slice A1 n1 c1) := by simp [World.cell?, hB]
    by_cases h2 : old = b
    · subst h2
      rw [if_pos ⟨rfl, rfl⟩] at hrx2
      have x0 : U3.cell? ⟨g1 + 1, 0, none⟩ = some (.int .u64 1) := by simp [World.cell?, hrx1]
      have y0 : U3.cell? ⟨g2 + 1, 0, none⟩ = some (.int .u64 1) := by simp [World.cell?, hrx2]
      have z0 : U3.cell? ⟨g3 + 1, 0, none⟩ = some (.int .u64 old) := by simp [World.cell?, hrx3]
      have z2 : U3.cell? ⟨g3 + 1, 2, none⟩ = some (.bool false) := by simp [World.cell?, hrx3]
      go_wp2
      go_ret
      exact ⟨rfl, hW⟩
    · rw [if_neg (fun h => h2 h.2)] at hrx2
      have h3 : (old == b) = false := by simpa using h2
      have x0 : U3.cell? ⟨g1 + 1, 0, none⟩ = some (.int .u64 1) := by simp [World.cell?, hrx1]
      have y0 : U3.cell? ⟨g2 + 1, 0, none⟩ = some (.int .u64 0) := by simp [World.cell?, hrx2]
      have z0 : U3.cell? ⟨g3 + 1, 0, none⟩ = some (.int .u64 b) := by simp [World.cell?, hrx3]
      have z2 : U3.cell? ⟨g3 + 1, 2, none⟩ = some (.bool false) := by simp [World.cell?, hrx3]
      go_wp2
      go_ret
      exact ⟨rfl, hW⟩
set_option maxRecDepth 100000 in
theorem open_cas {H : Type} {enc : TypeId × Value → H} {w : World} {base : Nat} {b0 : Nat} {v : Value} {d : DataW H} {p : List MemPlace} (hv : Value.okWide Try.prog w .any b0 81 v) (h : DataW.Trod enc Try.prog w base (fun _ => true) true 81 v d p) (hL : Light Try.prog 81 d) :
    ∃ (T C : Int) (A : Option Addr) (q c : Nat) (ws : List Int) (R : Int) (A0 A1 : Option Addr) (n0 c0 n1 c1 : Nat) (l0 l1 : List St) (me : Int) (iN : Nat) (a b : Int) (own : Bool),
      v = .agg #[.int .i64 T, .int .i64 C, .slice A q c, .int .u64 R, .slice A0 n0 c0, .slice A1 n1 c1, .int .i64 me, .int .u16 (iN : Int), .int .u64 a, .int .u64 b, .bool own] ∧ WldP w A q c ws R A0 A1 n0 c0 n1 c1 l0 l1 ∧ iN < 65536 ∧ (0 ≤ a ∧ a < 18446744073709551616) ∧ (0 ≤ b ∧ b < 18446744073709551616) := by
  obtain ⟨cs, rfl, hsz⟩ := okWide_struct Try.underlying81 hv
  obtain ⟨fuel, hf⟩ := h
  obtain ⟨k, hg⟩ := open_inner_w Try.underlying81 hf hL
  have hl : cs.toList.length = 11 := by simpa [show Try.prog.cellsOf 81 = 11 by kernel_rfl] using hsz
  have hcs : (Value.agg cs).cells.toList = cs.toList := rfl
  rw [hcs] at hg
  have hcs2 : cs = cs.toList.toArray := by simp
  rw [hcs2]
  generalize cs.toList = l at *
  match l, hl with
  | [x0, x1, x2, x3, x4, x5, x6, x7, x8, x9, x10], _ =>
  obtain ⟨_, t0, y0⟩ := hg 0 _ rfl
  obtain ⟨_, t1, -⟩ := hg 1 _ rfl
  obtain ⟨_, t2, -⟩ := hg 2 _ rfl
  obtain ⟨_, t3, -⟩ := hg 3 _ rfl
  obtain ⟨_, t4, -⟩ := hg 4 _ rfl
  obtain ⟨_, t5, -⟩ := hg 5 _ rfl
  obtain ⟨T, C, A, q, c, ws, R, A0, A1, n0, c0, n1, c1, l0, l1, e0, hP⟩ := open_world (by simp [cellsWorld]) t0 y0
  obtain ⟨me, e1, _, w1⟩ := DataW.trod_int Try.underlying3 t1
  obtain ⟨i, e2, _, w2⟩ := DataW.trod_int Try.underlying79 t2
  obtain ⟨a, e3, _, w3⟩ := DataW.trod_int Try.underlying26 t3
  obtain ⟨b, e4, _, w4⟩ := DataW.trod_int Try.underlying26 t4
  obtain ⟨own, e5, _⟩ := DataW.trod_bool Try.underlying4 t5
  simp [cellsIntS, cellsWorld, cellsU64S, cellsBoolS, show Try.prog.cellsOf 79 = 1 by kernel_rfl] at e0 e1 e2 e3 e4 e5
  obtain ⟨rfl, rfl, rfl, rfl, rfl, rfl⟩ := e0
  subst e1 e2 e3 e4 e5
  obtain ⟨h1, h2⟩ := wf_u16 w2
  obtain ⟨iN, rfl⟩ := Int.eq_ofNat_of_zero_le h1
  exact ⟨T, C, A, q, c, ws, R, A0, A1, n0, c0, n1, c1, l0, l1, me, iN, a, b, own, rfl, hP, by omega, wf_u64 w3, wf_u64 w4⟩
set_option maxRecDepth 100000 in
theorem AccessCas_lifted (os : Os) (started : os.Started) (H : Type) (enc : TypeId × Value → H) :
    ReturnsInHanded {} Try.checked os 7 .any (Rows.accessCasSpec.pre6 enc Try.prog Try.f7 Rows.accessCasRow.domain false) (Rows.accessCasSpec.post enc Try.prog Try.f7 false true false false) := by
  refine law_row_w os started H enc Rows.accessCasSpec rfl (fun ds h => by
    match ds, h with
    | [_], _ => rfl) (by kernel_rfl) Try.func7 rfl
    (by rw [Try.params7]; intro t ht; simp at ht; subst ht; exact ⟨by kernel_rfl, of_decide_eq_true (by kernel_rfl)⟩)
    (ChangeSpec.witness6 (enc := enc) (C := Try.checked) false ⟨#[], #[.agg #[.int .i64 0, .int .i64 0, .slice none 0 0, .int .u64 0, .slice none 0 0, .slice none 0 0, .int .i64 0, .int .u16 0, .int .u64 0, .int .u64 0, .bool false]], []⟩ 8 (by kernel_rfl) (by kernel_rfl) (by kernel_rfl) (by kernel_rfl)) ?_
  intro W base args ds ps hval hA hlt hlight
  rw [Try.params7] at hA hval
  obtain ⟨v0, d0, rfl, rfl, h0⟩ := trodAll_one hA
  obtain ⟨T, C, A, q, c, ws, R, A0, A1, n0, c0, n1, c1, l0, l1, me, iN, a, b, own, rfl, hP, hi, ha, hb⟩ := open_cas (hval 0 _ v0 rfl rfl) h0 (hlight 0 _ _ rfl rfl)
  exact cas_walk T C A q c ws R A0 A1 n0 c0 n1 c1 l0 l1 me iN a b own W hP hi ha hb
theorem AccessCas_holds : Rows.AccessCasSaid :=
  OpenClaim.holds_of_wide 7 Try.f7 rfl rfl rfl rfl rfl rfl rfl ⟨rfl, rfl, rfl, rfl, rfl⟩ rfl rfl rfl rfl rfl (by kernel_rfl) Try.func7 (by kernel_rfl)
    (of_decide_eq_true (by kernel_rfl)) (by unfold Func.isWrapper; rw [if_neg (of_decide_eq_false (by kernel_rfl))]; exact ⟨rfl, rfl⟩)
    (fun os started H enc _ => AccessCas_lifted os started H enc)
#print axioms AccessCas_holds
end Go.Proofs.Ytennnhfaghdeoaa
