/- Proved: the law AccessSwaps (two accesses of two unlike words may change places: the world behind both is the same, and what each one tells) returns true at every input and turns none of its arguments. No condition. -/
import Derived.Test.YtennnhfaghdeoaaAccLaw
namespace Go.Proofs.Ytennnhfaghdeoaa
open Go.ChangeShapes Go.WideShapes Go.ChangeAt Go.RowKit

set_option maxRecDepth 100000 in
set_option maxHeartbeats 4000000 in
theorem swaps_walk (T C : Int) (A : Option Addr) (q c : Nat) (ws : List Int) (R : Int) (A0 A1 : Option Addr) (n0 c0 n1 c1 : Nat) (l0 l1 : List St) (va vb : Value) (a b : AccK) (w : World) (hP : WldP w A q c ws R A0 A1 n0 c0 n1 c1 l0 l1) (ha : AccV w va a) (hb : AccV w vb b) :
    Calls Try.prog 8 #[.agg #[.int .i64 T, .int .i64 C, .slice A q c, .int .u64 R, .slice A0 n0 c0, .slice A1 n1 c1], va, vb] w fun e w' => e = .returned (.bool true) ∧ Ext w w' := by
  have hqc := Nat.le_trans hP.words.le hP.words.cap
  simp only [maxLen] at hqc
  have ha_ := ha
  have hb_ := hb
  obtain ⟨Da, ma, ka, Ea, pa, ja, rfl, -, -, -, -⟩ := ha_
  obtain ⟨Db, mb, kb, Eb, pb, jb, rfl, -, -, -, -⟩ := hb_
  go_enter Try.func8, Try.ntmps8
  go_upto_region 1 with (fail)
  obtain ⟨hW, hB0, hB1, hB2⟩ := boxes3 w (.cells #[.int .i64 T, .int .i64 C, .slice A q c, .int .u64 R, .slice A0 n0 c0, .slice A1 n1 c1] 32) (.cells #[.int .i64 a.kind, .int .i64 a.cell, .int .u64 a.a, .int .u64 a.b, .slice Da ma ka, .slice Ea pa ja] 42) (.cells #[.int .i64 b.kind, .int .i64 b.cell, .int .u64 b.a, .int .u64 b.b, .slice Db mb kb, .slice Eb pb jb] 42)
  generalize ((w.alloc (.cells #[.int .i64 T, .int .i64 C, .slice A q c, .int .u64 R, .slice A0 n0 c0, .slice A1 n1 c1] 32)).alloc (.cells #[.int .i64 a.kind, .int .i64 a.cell, .int .u64 a.a, .int .u64 a.b, .slice Da ma ka, .slice Ea pa ja] 42)).alloc (.cells #[.int .i64 b.kind, .int .i64 b.cell, .int .u64 b.a, .int .u64 b.b, .slice Db mb kb, .slice Eb pb jb] 42) = W0 at *
  generalize w.heap.size = g0 at *
  replace hP := hP.ext hW
  replace ha := ha.ext hW
  replace hb := hb.ext hW
  go_wp2_with fail
  refine (shown10_any _).mono ?_
  rintro e W1 ⟨rfl, hx⟩
  replace hB0 := heap_ext hB0 hx
  replace hB1 := heap_ext hB1 hx
  replace hB2 := heap_ext hB2 hx
  replace hP := hP.ext hx
  replace ha := ha.ext hx
  replace hb := hb.ext hx
  replace hW := hW.trans hx
  clear hx
  have e0 : W1.cell? ⟨g0, 0, none⟩ = some (.int .i64 T) := by simp [World.cell?, hB0]
  have e1 : W1.cell? ⟨g0, 1, none⟩ = some (.int .i64 C) := by simp [World.cell?, hB0]
  have e2 : W1.cell? ⟨g0, 2, none⟩ = some (.slice A q c) := by simp [World.cell?, hB0]
  have e3 : W1.cell? ⟨g0, 3, none⟩ = some (.int .u64 R) := by simp [World.cell?, hB0]
  have e4 : W1.cell? ⟨g0, 4, none⟩ = some (.slice A0 n0 c0) := by simp [World.cell?, hB0]
  have e5 : W1.cell? ⟨g0, 5, none⟩ = some (.slice A1 n1 c1) := by simp [World.cell?, hB0]
  go_wp2_with fail
  refine (small_any T C A q c R A0 A1 n0 c0 n1 c1 l0 l1 0 _ hP.row0 hP.row1 (by omega) hP.z0 hP.z1).mono ?_
  rintro e W2 ⟨⟨sm, rfl, hsm⟩, hx⟩
  clear e0 e1 e2 e3 e4 e5
  replace hB0 := heap_ext hB0 hx
  replace hB1 := heap_ext hB1 hx
  replace hB2 := heap_ext hB2 hx
  replace hP := hP.ext hx
  replace ha := ha.ext hx
  replace hb := hb.ext hx
  replace hW := hW.trans hx
  clear hx
  cases sm
  · go_wp2
    go_ret
    exact ⟨rfl, hW⟩
  have hS := hsm rfl
  clear hsm
  obtain ⟨rfl, hnT, hmay, hqq, hF, hV⟩ := hP.small hS.right hS.sum hS.q6
  have hq6 := hS.q6
  have hwq := hP.words.len
  clear hS hP
  have f0 : W2.cell? ⟨g0 + 1, 0, none⟩ = some (.int .i64 a.kind) := by simp [World.cell?, hB1]
  have f1 : W2.cell? ⟨g0 + 1, 1, none⟩ = some (.int .i64 a.cell) := by simp [World.cell?, hB1]
  have f2 : W2.cell? ⟨g0 + 1, 2, none⟩ = some (.int .u64 a.a) := by simp [World.cell?, hB1]
  have f3 : W2.cell? ⟨g0 + 1, 3, none⟩ = some (.int .u64 a.b) := by simp [World.cell?, hB1]
  have f4 : W2.cell? ⟨g0 + 1, 4, none⟩ = some (.slice Da ma ka) := by simp [World.cell?, hB1]
  have f5 : W2.cell? ⟨g0 + 1, 5, none⟩ = some (.slice Ea pa ja) := by simp [World.cell?, hB1]
  have h0 : W2.cell? ⟨g0 + 1 + 1, 0, none⟩ = some (.int .i64 b.kind) := by simp [World.cell?, hB2]
  have h1 : W2.cell? ⟨g0 + 1 + 1, 1, none⟩ = some (.int .i64 b.cell) := by simp [World.cell?, hB2]
  have h2 : W2.cell? ⟨g0 + 1 + 1, 2, none⟩ = some (.int .u64 b.a) := by simp [World.cell?, hB2]
  have h3 : W2.cell? ⟨g0 + 1 + 1, 3, none⟩ = some (.int .u64 b.b) := by simp [World.cell?, hB2]
  have h4 : W2.cell? ⟨g0 + 1 + 1, 4, none⟩ = some (.slice Db mb kb) := by simp [World.cell?, hB2]
  have h5 : W2.cell? ⟨g0 + 1 + 1, 5, none⟩ = some (.slice Eb pb jb) := by simp [World.cell?, hB2]
  by_cases hcc : a.cell = b.cell
  · go_wp2
    go_ret
    exact ⟨rfl, hW⟩
  have hcb : (a.cell == b.cell) = false := by simpa using hcc
  rcases (Decidable.em (0 ≤ a.kind)).symm with ha0 | ha0
  · have ha0' : a.kind < 0 := by omega
    go_wp2
    go_ret
    exact ⟨rfl, hW⟩
  have ha0' : ¬ a.kind < 0 := by omega
  rcases (Decidable.em (a.kind ≤ 4)).symm with ha4 | ha4
  · have ha4' : 4 < a.kind := by omega
    go_wp2
    go_ret
    exact ⟨rfl, hW⟩
  have ha4' : ¬ 4 < a.kind := by omega
  rcases (Decidable.em (0 ≤ b.kind)).symm with hb0 | hb0
  · have hb0' : b.kind < 0 := by omega
    go_wp2
    go_ret
    exact ⟨rfl, hW⟩
  have hb0' : ¬ b.kind < 0 := by omega
  rcases (Decidable.em (b.kind ≤ 4)).symm with hb4 | hb4
  · have hb4' : 4 < b.kind := by omega
    go_wp2
    go_ret
    exact ⟨rfl, hW⟩
  have hb4' : ¬ 4 < b.kind := by omega
  generalize hX0 : (⟨T, C, ws, R, n1, l0.map St.key, l1.map St.key⟩ : WldK) = X0 at *
  have hXs : X0.ws.length ≤ 1000000 := by rw [← hX0]; simp only; omega
  go_upto_region 4 with (fail)
  clear f0 f1 f2 f3 f4 f5 h0 h1 h2 h3 h4 h5
  have e0 : W2.cell? ⟨g0, 0, none⟩ = some (.int .i64 T) := by simp [World.cell?, hB0]
  have e1 : W2.cell? ⟨g0, 1, none⟩ = some (.int .i64 C) := by simp [World.cell?, hB0]
  have e2 : W2.cell? ⟨g0, 2, none⟩ = some (.slice A q c) := by simp [World.cell?, hB0]
  have e3 : W2.cell? ⟨g0, 3, none⟩ = some (.int .u64 R) := by simp [World.cell?, hB0]
  have e4 : W2.cell? ⟨g0, 4, none⟩ = some (.slice A0 n1 c0) := by simp [World.cell?, hB0]
  have e5 : W2.cell? ⟨g0, 5, none⟩ = some (.slice A1 n1 c1) := by simp [World.cell?, hB0]
  have f0 : W2.cell? ⟨g0 + 1, 0, none⟩ = some (.int .i64 a.kind) := by simp [World.cell?, hB1]
  have f1 : W2.cell? ⟨g0 + 1, 1, none⟩ = some (.int .i64 a.cell) := by simp [World.cell?, hB1]
  have f2 : W2.cell? ⟨g0 + 1, 2, none⟩ = some (.int .u64 a.a) := by simp [World.cell?, hB1]
  have f3 : W2.cell? ⟨g0 + 1, 3, none⟩ = some (.int .u64 a.b) := by simp [World.cell?, hB1]
  have f4 : W2.cell? ⟨g0 + 1, 4, none⟩ = some (.slice Da ma ka) := by simp [World.cell?, hB1]
  have f5 : W2.cell? ⟨g0 + 1, 5, none⟩ = some (.slice Ea pa ja) := by simp [World.cell?, hB1]
  have h0 : W2.cell? ⟨g0 + 1 + 1, 0, none⟩ = some (.int .i64 b.kind) := by simp [World.cell?, hB2]
  have h1 : W2.cell? ⟨g0 + 1 + 1, 1, none⟩ = some (.int .i64 b.cell) := by simp [World.cell?, hB2]
  have h2 : W2.cell? ⟨g0 + 1 + 1, 2, none⟩ = some (.int .u64 b.a) := by simp [World.cell?, hB2]
  have h3 : W2.cell? ⟨g0 + 1 + 1, 3, none⟩ = some (.int .u64 b.b) := by simp [World.cell?, hB2]
  have h4 : W2.cell? ⟨g0 + 1 + 1, 4, none⟩ = some (.slice Db mb kb) := by simp [World.cell?, hB2]
  have h5 : W2.cell? ⟨g0 + 1 + 1, 5, none⟩ = some (.slice Eb pb jb) := by simp [World.cell?, hB2]
  go_wp2_with fail
  refine (do_all _ _ X0 0 a false _ hV ha (useM_word ha4 ▸ hF.le_ (by omega))).mono ?_
  rintro e u1 ⟨v1, r1, rfl, hV1, hR1, hu_⟩
  generalize hX1 : doK X0 0 a false = X1 at hV1
  generalize hY1 : doR X0 a false = R1 at hR1
  have hX1 := Lib.hid hX1
  have hY1 := Lib.hid hY1
  have hV1_ := hV1
  have hR1_ := hR1
  obtain ⟨xA1, xq1, xc1, xB1, xC1, xb1, xd1, rfl, hw1, hd1⟩ := hV1_
  obtain ⟨yS1, ys1, yt1, rfl, hs1⟩ := hR1_
  clear e0 e1 e2 e3 e4 e5 f0 f1 f2 f3 f4 f5 h0 h1 h2 h3 h4 h5
  replace hB0 := heap_ext hB0 hu_
  replace hB1 := heap_ext hB1 hu_
  replace hB2 := heap_ext hB2 hu_
  replace ha := ha.ext hu_
  replace hb := hb.ext hu_
  replace hV := hV.ext hu_
  replace hW := hW.trans hu_
  clear hu_
  go_upto_region 5 with (fail)
  obtain ⟨hx_, hbx1, hrx1⟩ := two_boxes7 u1 (.cells #[.int .i64 X1.T, .int .i64 X1.C, .slice xA1 xq1 xc1, .int .u64 X1.R, .slice xB1 X1.n xb1, .slice xC1 X1.n xd1] 32) (.cells #[.int .u64 R1.N, .slice yS1 ys1 yt1, .bool R1.fail] 51)
  generalize (u1.alloc (.cells #[.int .i64 X1.T, .int .i64 X1.C, .slice xA1 xq1 xc1, .int .u64 X1.R, .slice xB1 X1.n xb1, .slice xC1 X1.n xd1] 32)).alloc (.cells #[.int .u64 R1.N, .slice yS1 ys1 yt1, .bool R1.fail] 51) = U1 at *
  generalize u1.heap.size = g1 at *
  replace hB0 := heap_ext hB0 hx_
  replace hB1 := heap_ext hB1 hx_
  replace hB2 := heap_ext hB2 hx_
  replace ha := ha.ext hx_
  replace hb := hb.ext hx_
  replace hV := hV.ext hx_
  replace hV1 := hV1.ext hx_
  replace hR1 := hR1.ext hx_
  replace hw1 := hw1.ext hx_
  replace hs1 := hs1.ext hx_
  replace hW := hW.trans hx_
  clear hx_
  have hF1 : Fit X1 0 := hX1.out ▸ ((hF.le_ (Nat.zero_le _)).word ha0 ha4)
  have e0 : U1.cell? ⟨g1, 0, none⟩ = some (.int .i64 X1.T) := by simp [World.cell?, hbx1]
  have e1 : U1.cell? ⟨g1, 1, none⟩ = some (.int .i64 X1.C) := by simp [World.cell?, hbx1]
  have e2 : U1.cell? ⟨g1, 2, none⟩ = some (.slice xA1 xq1 xc1) := by simp [World.cell?, hbx1]
  have e3 : U1.cell? ⟨g1, 3, none⟩ = some (.int .u64 X1.R) := by simp [World.cell?, hbx1]
  have e4 : U1.cell? ⟨g1, 4, none⟩ = some (.slice xB1 X1.n xb1) := by simp [World.cell?, hbx1]
  have e5 : U1.cell? ⟨g1, 5, none⟩ = some (.slice xC1 X1.n xd1) := by simp [World.cell?, hbx1]
  have h0 : U1.cell? ⟨g0 + 1 + 1, 0, none⟩ = some (.int .i64 b.kind) := by simp [World.cell?, hB2]
  have h1 : U1.cell? ⟨g0 + 1 + 1, 1, none⟩ = some (.int .i64 b.cell) := by simp [World.cell?, hB2]
  have h2 : U1.cell? ⟨g0 + 1 + 1, 2, none⟩ = some (.int .u64 b.a) := by simp [World.cell?, hB2]
  have h3 : U1.cell? ⟨g0 + 1 + 1, 3, none⟩ = some (.int .u64 b.b) := by simp [World.cell?, hB2]
  have h4 : U1.cell? ⟨g0 + 1 + 1, 4, none⟩ = some (.slice Db mb kb) := by simp [World.cell?, hB2]
  have h5 : U1.cell? ⟨g0 + 1 + 1, 5, none⟩ = some (.slice Eb pb jb) := by simp [World.cell?, hB2]
  go_wp2_with fail
  refine (do_all _ _ X1 0 b false _ hV1 hb (useM_word hb4 ▸ hF1)).mono ?_
  rintro e u2 ⟨v2, r2, rfl, hV2, hR2, hu_⟩
  generalize hX2 : doK X1 0 b false = X2 at hV2
  generalize hY2 : doR X1 b false = R2 at hR2
  have hX2 := Lib.hid hX2
  have hY2 := Lib.hid hY2
  have hV2_ := hV2
  have hR2_ := hR2
  obtain ⟨xA2, xq2, xc2, xB2, xC2, xb2, xd2, rfl, hw2, hd2⟩ := hV2_
  obtain ⟨yS2, ys2, yt2, rfl, hs2⟩ := hR2_
  clear e0 e1 e2 e3 e4 e5 h0 h1 h2 h3 h4 h5
  replace hB0 := heap_ext hB0 hu_
  replace hB1 := heap_ext hB1 hu_
  replace hB2 := heap_ext hB2 hu_
  replace hbx1 := heap_ext hbx1 hu_
  replace hrx1 := heap_ext hrx1 hu_
  replace ha := ha.ext hu_
  replace hb := hb.ext hu_
  replace hV := hV.ext hu_
  replace hV1 := hV1.ext hu_
  replace hR1 := hR1.ext hu_
  replace hw1 := hw1.ext hu_
  replace hs1 := hs1.ext hu_
  replace hW := hW.trans hu_
  clear hu_
  go_upto_region 6 with (fail)
  obtain ⟨hx_, hbx2, hrx2⟩ := two_boxes7 u2 (.cells #[.int .i64 X2.T, .int .i64 X2.C, .slice xA2 xq2 xc2, .int .u64 X2.R, .slice xB2 X2.n xb2, .slice xC2 X2.n xd2] 32) (.cells #[.int .u64 R2.N, .slice yS2 ys2 yt2, .bool R2.fail] 51)
  generalize (u2.alloc (.cells #[.int .i64 X2.T, .int .i64 X2.C, .slice xA2 xq2 xc2, .int .u64 X2.R, .slice xB2 X2.n xb2, .slice xC2 X2.n xd2] 32)).alloc (.cells #[.int .u64 R2.N, .slice yS2 ys2 yt2, .bool R2.fail] 51) = U2 at *
  generalize u2.heap.size = g2 at *
  replace hB0 := heap_ext hB0 hx_
  replace hB1 := heap_ext hB1 hx_
  replace hB2 := heap_ext hB2 hx_
  replace hbx1 := heap_ext hbx1 hx_
  replace hrx1 := heap_ext hrx1 hx_
  replace ha := ha.ext hx_
  replace hb := hb.ext hx_
  replace hV := hV.ext hx_
  replace hV1 := hV1.ext hx_
  replace hR1 := hR1.ext hx_
  replace hw1 := hw1.ext hx_
  replace hs1 := hs1.ext hx_
  replace hV2 := hV2.ext hx_
  replace hR2 := hR2.ext hx_
  replace hw2 := hw2.ext hx_
  replace hs2 := hs2.ext hx_
  replace hW := hW.trans hx_
  clear hx_
  have e0 : U2.cell? ⟨g0, 0, none⟩ = some (.int .i64 T) := by simp [World.cell?, hB0]
  have e1 : U2.cell? ⟨g0, 1, none⟩ = some (.int .i64 C) := by simp [World.cell?, hB0]
  have e2 : U2.cell? ⟨g0, 2, none⟩ = some (.slice A q c) := by simp [World.cell?, hB0]
  have e3 : U2.cell? ⟨g0, 3, none⟩ = some (.int .u64 R) := by simp [World.cell?, hB0]
  have e4 : U2.cell? ⟨g0, 4, none⟩ = some (.slice A0 n1 c0) := by simp [World.cell?, hB0]
  have e5 : U2.cell? ⟨g0, 5, none⟩ = some (.slice A1 n1 c1) := by simp [World.cell?, hB0]
  have f0 : U2.cell? ⟨g0 + 1, 0, none⟩ = some (.int .i64 a.kind) := by simp [World.cell?, hB1]
  have f1 : U2.cell? ⟨g0 + 1, 1, none⟩ = some (.int .i64 a.cell) := by simp [World.cell?, hB1]
  have f2 : U2.cell? ⟨g0 + 1, 2, none⟩ = some (.int .u64 a.a) := by simp [World.cell?, hB1]
  have f3 : U2.cell? ⟨g0 + 1, 3, none⟩ = some (.int .u64 a.b) := by simp [World.cell?, hB1]
  have f4 : U2.cell? ⟨g0 + 1, 4, none⟩ = some (.slice Da ma ka) := by simp [World.cell?, hB1]
  have f5 : U2.cell? ⟨g0 + 1, 5, none⟩ = some (.slice Ea pa ja) := by simp [World.cell?, hB1]
  have h0 : U2.cell? ⟨g0 + 1 + 1, 0, none⟩ = some (.int .i64 b.kind) := by simp [World.cell?, hB2]
  have h1 : U2.cell? ⟨g0 + 1 + 1, 1, none⟩ = some (.int .i64 b.cell) := by simp [World.cell?, hB2]
  have h2 : U2.cell? ⟨g0 + 1 + 1, 2, none⟩ = some (.int .u64 b.a) := by simp [World.cell?, hB2]
  have h3 : U2.cell? ⟨g0 + 1 + 1, 3, none⟩ = some (.int .u64 b.b) := by simp [World.cell?, hB2]
  have h4 : U2.cell? ⟨g0 + 1 + 1, 4, none⟩ = some (.slice Db mb kb) := by simp [World.cell?, hB2]
  have h5 : U2.cell? ⟨g0 + 1 + 1, 5, none⟩ = some (.slice Eb pb jb) := by simp [World.cell?, hB2]
  go_wp2_with fail
  refine (do_all _ _ X0 0 b false _ hV hb (useM_word hb4 ▸ hF.le_ (by omega))).mono ?_
  rintro e u3 ⟨v3, r3, rfl, hV3, hR3, hu_⟩
  generalize hX3 : doK X0 0 b false = X3 at hV3
  generalize hY3 : doR X0 b false = R3 at hR3
  have hX3 := Lib.hid hX3
  have hY3 := Lib.hid hY3
  have hV3_ := hV3
  have hR3_ := hR3
  obtain ⟨xA3, xq3, xc3, xB3, xC3, xb3, xd3, rfl, hw3, hd3⟩ := hV3_
  obtain ⟨yS3, ys3, yt3, rfl, hs3⟩ := hR3_
  clear e0 e1 e2 e3 e4 e5 f0 f1 f2 f3 f4 f5 h0 h1 h2 h3 h4 h5
  replace hB0 := heap_ext hB0 hu_
  replace hB1 := heap_ext hB1 hu_
  replace hB2 := heap_ext hB2 hu_
  replace hbx1 := heap_ext hbx1 hu_
  replace hrx1 := heap_ext hrx1 hu_
  replace hbx2 := heap_ext hbx2 hu_
  replace hrx2 := heap_ext hrx2 hu_
  replace ha := ha.ext hu_
  replace hb := hb.ext hu_
  replace hV := hV.ext hu_
  replace hV1 := hV1.ext hu_
  replace hR1 := hR1.ext hu_
  replace hw1 := hw1.ext hu_
  replace hs1 := hs1.ext hu_
  replace hV2 := hV2.ext hu_
  replace hR2 := hR2.ext hu_
  replace hw2 := hw2.ext hu_
  replace hs2 := hs2.ext hu_
  replace hW := hW.trans hu_
  clear hu_
  go_upto_region 7 with (fail)
  obtain ⟨hx_, hbx3, hrx3⟩ := two_boxes7 u3 (.cells #[.int .i64 X3.T, .int .i64 X3.C, .slice xA3 xq3 xc3, .int .u64 X3.R, .slice xB3 X3.n xb3, .slice xC3 X3.n xd3] 32) (.cells #[.int .u64 R3.N, .slice yS3 ys3 yt3, .bool R3.fail] 51)
  generalize (u3.alloc (.cells #[.int .i64 X3.T, .int .i64 X3.C, .slice xA3 xq3 xc3, .int .u64 X3.R, .slice xB3 X3.n xb3, .slice xC3 X3.n xd3] 32)).alloc (.cells #[.int .u64 R3.N, .slice yS3 ys3 yt3, .bool R3.fail] 51) = U3 at *
  generalize u3.heap.size = g3 at *
  replace hB0 := heap_ext hB0 hx_
  replace hB1 := heap_ext hB1 hx_
  replace hB2 := heap_ext hB2 hx_
  replace hbx1 := heap_ext hbx1 hx_
  replace hrx1 := heap_ext hrx1 hx_
  replace hbx2 := heap_ext hbx2 hx_
  replace hrx2 := heap_ext hrx2 hx_
  replace ha := ha.ext hx_
  replace hb := hb.ext hx_
  replace hV := hV.ext hx_
  replace hV1 := hV1.ext hx_
  replace hR1 := hR1.ext hx_
  replace hw1 := hw1.ext hx_
  replace hs1 := hs1.ext hx_
  replace hV2 := hV2.ext hx_
  replace hR2 := hR2.ext hx_
  replace hw2 := hw2.ext hx_
  replace hs2 := hs2.ext hx_
  replace hV3 := hV3.ext hx_
  replace hR3 := hR3.ext hx_
  replace hw3 := hw3.ext hx_
  replace hs3 := hs3.ext hx_
  replace hW := hW.trans hx_
  clear hx_
  have hF3 : Fit X3 0 := hX3.out ▸ ((hF.le_ (Nat.zero_le _)).word hb0 hb4)
  have e0 : U3.cell? ⟨g3, 0, none⟩ = some (.int .i64 X3.T) := by simp [World.cell?, hbx3]
  have e1 : U3.cell? ⟨g3, 1, none⟩ = some (.int .i64 X3.C) := by simp [World.cell?, hbx3]
  have e2 : U3.cell? ⟨g3, 2, none⟩ = some (.slice xA3 xq3 xc3) := by simp [World.cell?, hbx3]
  have e3 : U3.cell? ⟨g3, 3, none⟩ = some (.int .u64 X3.R) := by simp [World.cell?, hbx3]
  have e4 : U3.cell? ⟨g3, 4, none⟩ = some (.slice xB3 X3.n xb3) := by simp [World.cell?, hbx3]
  have e5 : U3.cell? ⟨g3, 5, none⟩ = some (.slice xC3 X3.n xd3) := by simp [World.cell?, hbx3]
  have f0 : U3.cell? ⟨g0 + 1, 0, none⟩ = some (.int .i64 a.kind) := by simp [World.cell?, hB1]
  have f1 : U3.cell? ⟨g0 + 1, 1, none⟩ = some (.int .i64 a.cell) := by simp [World.cell?, hB1]
  have f2 : U3.cell? ⟨g0 + 1, 2, none⟩ = some (.int .u64 a.a) := by simp [World.cell?, hB1]
  have f3 : U3.cell? ⟨g0 + 1, 3, none⟩ = some (.int .u64 a.b) := by simp [World.cell?, hB1]
  have f4 : U3.cell? ⟨g0 + 1, 4, none⟩ = some (.slice Da ma ka) := by simp [World.cell?, hB1]
  have f5 : U3.cell? ⟨g0 + 1, 5, none⟩ = some (.slice Ea pa ja) := by simp [World.cell?, hB1]
  go_wp2_with fail
  refine (do_all _ _ X3 0 a false _ hV3 ha (useM_word ha4 ▸ hF3)).mono ?_
  rintro e u4 ⟨v4, r4, rfl, hV4, hR4, hu_⟩
  generalize hX4 : doK X3 0 a false = X4 at hV4
  generalize hY4 : doR X3 a false = R4 at hR4
  have hX4 := Lib.hid hX4
  have hY4 := Lib.hid hY4
  have hV4_ := hV4
  have hR4_ := hR4
  obtain ⟨xA4, xq4, xc4, xB4, xC4, xb4, xd4, rfl, hw4, hd4⟩ := hV4_
  obtain ⟨yS4, ys4, yt4, rfl, hs4⟩ := hR4_
  clear e0 e1 e2 e3 e4 e5 f0 f1 f2 f3 f4 f5
  replace hB0 := heap_ext hB0 hu_
  replace hB1 := heap_ext hB1 hu_
  replace hB2 := heap_ext hB2 hu_
  replace hbx1 := heap_ext hbx1 hu_
  replace hrx1 := heap_ext hrx1 hu_
  replace hbx2 := heap_ext hbx2 hu_
  replace hrx2 := heap_ext hrx2 hu_
  replace hbx3 := heap_ext hbx3 hu_
  replace hrx3 := heap_ext hrx3 hu_
  replace ha := ha.ext hu_
  replace hb := hb.ext hu_
  replace hV := hV.ext hu_
  replace hV1 := hV1.ext hu_
  replace hR1 := hR1.ext hu_
  replace hw1 := hw1.ext hu_
  replace hs1 := hs1.ext hu_
  replace hV2 := hV2.ext hu_
  replace hR2 := hR2.ext hu_
  replace hw2 := hw2.ext hu_
  replace hs2 := hs2.ext hu_
  replace hV3 := hV3.ext hu_
  replace hR3 := hR3.ext hu_
  replace hw3 := hw3.ext hu_
  replace hs3 := hs3.ext hu_
  replace hW := hW.trans hu_
  clear hu_
  go_upto_region 8 with (fail)
  obtain ⟨hx_, hbx4, hrx4⟩ := two_boxes7 u4 (.cells #[.int .i64 X4.T, .int .i64 X4.C, .slice xA4 xq4 xc4, .int .u64 X4.R, .slice xB4 X4.n xb4, .slice xC4 X4.n xd4] 32) (.cells #[.int .u64 R4.N, .slice yS4 ys4 yt4, .bool R4.fail] 51)
  generalize (u4.alloc (.cells #[.int .i64 X4.T, .int .i64 X4.C, .slice xA4 xq4 xc4, .int .u64 X4.R, .slice xB4 X4.n xb4, .slice xC4 X4.n xd4] 32)).alloc (.cells #[.int .u64 R4.N, .slice yS4 ys4 yt4, .bool R4.fail] 51) = U4 at *
  generalize u4.heap.size = g4 at *
  replace hB0 := heap_ext hB0 hx_
  replace hB1 := heap_ext hB1 hx_
  replace hB2 := heap_ext hB2 hx_
  replace hbx1 := heap_ext hbx1 hx_
  replace hrx1 := heap_ext hrx1 hx_
  replace hbx2 := heap_ext hbx2 hx_
  replace hrx2 := heap_ext hrx2 hx_
  replace hbx3 := heap_ext hbx3 hx_
  replace hrx3 := heap_ext hrx3 hx_
  replace ha := ha.ext hx_
  replace hb := hb.ext hx_
  replace hV := hV.ext hx_
  replace hV1 := hV1.ext hx_
  replace hR1 := hR1.ext hx_
  replace hw1 := hw1.ext hx_
  replace hs1 := hs1.ext hx_
  replace hV2 := hV2.ext hx_
  replace hR2 := hR2.ext hx_
  replace hw2 := hw2.ext hx_
  replace hs2 := hs2.ext hx_
  replace hV3 := hV3.ext hx_
  replace hR3 := hR3.ext hx_
  replace hw3 := hw3.ext hx_
  replace hs3 := hs3.ext hx_
  replace hV4 := hV4.ext hx_
  replace hR4 := hR4.ext hx_
  replace hw4 := hw4.ext hx_
  replace hs4 := hs4.ext hx_
  replace hW := hW.trans hx_
  clear hx_
  have hE2 : X4 = X2 := by
    rw [← hX4.out, ← hX2.out, ← hX3.out, ← hX1.out, doK_word hb0 hb4, doK_word ha0 ha4, doK_word ha0 ha4, doK_word hb0 hb4]
    simp only [wordsK_comm X0.ws a b hcc]
  have hE4 : R4 = R1 := by
    rw [← hY4.out, ← hY1.out, ← hX3.out, doK_word hb0 hb4, doR_word ha0 ha4, doR_word ha0 ha4]
    exact wordsR_other X0.ws a b hcc
  have hE3 : R3 = R2 := by
    rw [← hY3.out, ← hY2.out, ← hX1.out, doK_word ha0 ha4, doR_word hb0 hb4, doR_word hb0 hb4]
    exact (wordsR_other X0.ws b a (Ne.symm hcc)).symm
  have hXs2 : X2.ws.length ≤ 1000000 := by
    rw [← hX2.out, ← hX1.out, doK_word hb0 hb4, doK_word ha0 ha4]
    simpa only [wordsK_length] using hXs
  subst hE2 hE3 hE4
  clear hX1 hX2 hX3 hX4 hY1 hY2 hY3 hY4 hF hF1 hF3 hXs hX0
  have e0 : U4.cell? ⟨g2, 0, none⟩ = some (.int .i64 X4.T) := by simp [World.cell?, hbx2]
  have e1 : U4.cell? ⟨g2, 1, none⟩ = some (.int .i64 X4.C) := by simp [World.cell?, hbx2]
  have e2 : U4.cell? ⟨g2, 2, none⟩ = some (.slice xA2 xq2 xc2) := by simp [World.cell?, hbx2]
  have e3 : U4.cell? ⟨g2, 3, none⟩ = some (.int .u64 X4.R) := by simp [World.cell?, hbx2]
  have e4 : U4.cell? ⟨g2, 4, none⟩ = some (.slice xB2 X4.n xb2) := by simp [World.cell?, hbx2]
  have e5 : U4.cell? ⟨g2, 5, none⟩ = some (.slice xC2 X4.n xd2) := by simp [World.cell?, hbx2]
  have f0 : U4.cell? ⟨g4, 0, none⟩ = some (.int .i64 X4.T) := by simp [World.cell?, hbx4]
  have f1 : U4.cell? ⟨g4, 1, none⟩ = some (.int .i64 X4.C) := by simp [World.cell?, hbx4]
  have f2 : U4.cell? ⟨g4, 2, none⟩ = some (.slice xA4 xq4 xc4) := by simp [World.cell?, hbx4]
  have f3 : U4.cell? ⟨g4, 3, none⟩ = some (.int .u64 X4.R) := by simp [World.cell?, hbx4]
  have f4 : U4.cell? ⟨g4, 4, none⟩ = some (.slice xB4 X4.n xb4) := by simp [World.cell?, hbx4]
  have f5 : U4.cell? ⟨g4, 5, none⟩ = some (.slice xC4 X4.n xd4) := by simp [World.cell?, hbx4]
  go_wp2_with fail
  refine (rasame_yes hV2 hV4 hXs2).mono ?_
  rintro e V1 ⟨rfl, hx1⟩
  clear e0 e1 e2 e3 e4 e5 f0 f1 f2 f3 f4 f5
  replace hB0 := heap_ext hB0 hx1
  replace hB1 := heap_ext hB1 hx1
  replace hB2 := heap_ext hB2 hx1
  replace hbx1 := heap_ext hbx1 hx1
  replace hrx1 := heap_ext hrx1 hx1
  replace hbx2 := heap_ext hbx2 hx1
  replace hrx2 := heap_ext hrx2 hx1
  replace hbx3 := heap_ext hbx3 hx1
  replace hrx3 := heap_ext hrx3 hx1
  replace hbx4 := heap_ext hbx4 hx1
  replace hrx4 := heap_ext hrx4 hx1
  replace ha := ha.ext hx1
  replace hb := hb.ext hx1
  replace hV := hV.ext hx1
  replace hV1 := hV1.ext hx1
  replace hR1 := hR1.ext hx1
  replace hw1 := hw1.ext hx1
  replace hs1 := hs1.ext hx1
  replace hV2 := hV2.ext hx1
  replace hR2 := hR2.ext hx1
  replace hw2 := hw2.ext hx1
  replace hs2 := hs2.ext hx1
  replace hV3 := hV3.ext hx1
  replace hR3 := hR3.ext hx1
  replace hw3 := hw3.ext hx1
  replace hs3 := hs3.ext hx1
  replace hV4 := hV4.ext hx1
  replace hR4 := hR4.ext hx1
  replace hw4 := hw4.ext hx1
  replace hs4 := hs4.ext hx1
  replace hW := hW.trans hx1
  have i0 : V1.cell? ⟨g1 + 1, 0, none⟩ = some (.int .u64 R4.N) := by simp [World.cell?, hrx1]
  have i1 : V1.cell? ⟨g1 + 1, 1, none⟩ = some (.slice yS1 ys1 yt1) := by simp [World.cell?, hrx1]
  have i2 : V1.cell? ⟨g1 + 1, 2, none⟩ = some (.bool R4.fail) := by simp [World.cell?, hrx1]
  have j0 : V1.cell? ⟨g4 + 1, 0, none⟩ = some (.int .u64 R4.N) := by simp [World.cell?, hrx4]
  have j1 : V1.cell? ⟨g4 + 1, 1, none⟩ = some (.slice yS4 ys4 yt4) := by simp [World.cell?, hrx4]
  have j2 : V1.cell? ⟨g4 + 1, 2, none⟩ = some (.bool R4.fail) := by simp [World.cell?, hrx4]
  go_wp2_with fail
  refine (told_yes hR1 hR4).mono ?_
  rintro e V2 ⟨rfl, hx2⟩
  clear i0 i1 i2 j0 j1 j2
  replace hB0 := heap_ext hB0 hx2
  replace hB1 := heap_ext hB1 hx2
  replace hB2 := heap_ext hB2 hx2
  replace hbx1 := heap_ext hbx1 hx2
  replace hrx1 := heap_ext hrx1 hx2
  replace hbx2 := heap_ext hbx2 hx2
  replace hrx2 := heap_ext hrx2 hx2
  replace hbx3 := heap_ext hbx3 hx2
  replace hrx3 := heap_ext hrx3 hx2
  replace hbx4 := heap_ext hbx4 hx2
  replace hrx4 := heap_ext hrx4 hx2
  replace ha := ha.ext hx2
  replace hb := hb.ext hx2
  replace hV := hV.ext hx2
  replace hV1 := hV1.ext hx2
  replace hR1 := hR1.ext hx2
  replace hw1 := hw1.ext hx2
  replace hs1 := hs1.ext hx2
  replace hV2 := hV2.ext hx2
  replace hR2 := hR2.ext hx2
  replace hw2 := hw2.ext hx2
  replace hs2 := hs2.ext hx2
  replace hV3 := hV3.ext hx2
  replace hR3 := hR3.ext hx2
  replace hw3 := hw3.ext hx2
  replace hs3 := hs3.ext hx2
  replace hV4 := hV4.ext hx2
  replace hR4 := hR4.ext hx2
  replace hw4 := hw4.ext hx2
  replace hs4 := hs4.ext hx2
  replace hW := hW.trans hx2
  have i0 : V2.cell? ⟨g2 + 1, 0, none⟩ = some (.int .u64 R3.N) := by simp [World.cell?, hrx2]
  have i1 : V2.cell? ⟨g2 + 1, 1, none⟩ = some (.slice yS2 ys2 yt2) := by simp [World.cell?, hrx2]
  have i2 : V2.cell? ⟨g2 + 1, 2, none⟩ = some (.bool R3.fail) := by simp [World.cell?, hrx2]
  have j0 : V2.cell? ⟨g3 + 1, 0, none⟩ = some (.int .u64 R3.N) := by simp [World.cell?, hrx3]
  have j1 : V2.cell? ⟨g3 + 1, 1, none⟩ = some (.slice yS3 ys3 yt3) := by simp [World.cell?, hrx3]
  have j2 : V2.cell? ⟨g3 + 1, 2, none⟩ = some (.bool R3.fail) := by simp [World.cell?, hrx3]
  go_wp2_with fail
  refine (told_yes hR2 hR3).mono ?_
  rintro e V3 ⟨rfl, hx3⟩
  go_wp2
  go_ret
  exact ⟨rfl, hW.trans hx3⟩
set_option maxRecDepth 100000 in
theorem AccessSwaps_lifted (os : Os) (started : os.Started) (H : Type) (enc : TypeId × Value → H) :
    ReturnsInHanded {} Try.checked os 8 .any (Rows.accessSwapsSpec.pre6 enc Try.prog Try.f8 Rows.accessSwapsRow.domain false) (Rows.accessSwapsSpec.post enc Try.prog Try.f8 false true false false) := by
  refine law_row_w os started H enc Rows.accessSwapsSpec rfl (fun ds h => by
    match ds, h with
    | [_, _, _], _ => rfl) (by kernel_rfl) Try.func8 rfl
    (by rw [Try.params8]; intro t ht; simp at ht; rcases ht with rfl | rfl <;> exact ⟨by kernel_rfl, of_decide_eq_true (by kernel_rfl)⟩)
    (ChangeSpec.witness6 (enc := enc) (C := Try.checked) false ⟨#[], #[.agg #[.int .i64 0, .int .i64 0, .slice none 0 0, .int .u64 0, .slice none 0 0, .slice none 0 0], .agg #[.int .i64 0, .int .i64 0, .int .u64 0, .int .u64 0, .slice none 0 0, .slice none 0 0], .agg #[.int .i64 0, .int .i64 0, .int .u64 0, .int .u64 0, .slice none 0 0, .slice none 0 0]], []⟩ 8 (by kernel_rfl) (by kernel_rfl) (by kernel_rfl) (by kernel_rfl)) ?_
  intro W base args ds ps hval hA hlt hlight
  rw [Try.params8] at hA hval
  obtain ⟨v0, v1, v2, d0, d1, d2, p0, p1, p2, rfl, rfl, rfl, h0, h1, h2⟩ := trodAll_three hA
  obtain ⟨T, C, A, q, c, ws, R, A0, A1, n0, c0, n1, c1, l0, l1, rfl, hP⟩ := open_world_arg (hval 0 _ v0 rfl rfl) h0 (hlight 0 _ _ rfl rfl)
  obtain ⟨a, ha⟩ := open_access_arg (hval 1 _ v1 rfl rfl) h1
  obtain ⟨b, hb⟩ := open_access_arg (hval 2 _ v2 rfl rfl) h2
  exact swaps_walk T C A q c ws R A0 A1 n0 c0 n1 c1 l0 l1 v1 v2 a b W hP ha hb
theorem AccessSwaps_holds : Rows.AccessSwapsSaid :=
  OpenClaim.holds_of_wide 8 Try.f8 rfl rfl rfl rfl rfl rfl rfl ⟨rfl, rfl, rfl, rfl, rfl⟩ rfl rfl rfl rfl rfl (by kernel_rfl) Try.func8 (by kernel_rfl)
    (of_decide_eq_true (by kernel_rfl)) (by unfold Func.isWrapper; rw [if_neg (of_decide_eq_false (by kernel_rfl))]; exact ⟨rfl, rfl⟩)
    (fun os started H enc _ => AccessSwaps_lifted os started H enc)
#print axioms AccessSwaps_holds
end Go.Proofs.Ytennnhfaghdeoaa
