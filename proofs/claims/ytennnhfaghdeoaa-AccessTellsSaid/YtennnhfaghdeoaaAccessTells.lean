/- Proved: the law AccessTells (which worlds are right, what an access tells, and the world behind it, are as the document says) returns true at every input and turns none of its arguments. No condition. -/
import Derived.Test.YtennnhfaghdeoaaAccLaw
import Derived.Test.YtennnhfaghdeoaaAccRefDo
import Derived.Test.YtennnhfaghdeoaaAccSame
import Derived.Test.YtennnhfaghdeoaaAccShown
import Derived.Test.YtennnhfaghdeoaaAccOpen
import Derived.Test.YtennnhfaghdeoaaSureL
namespace Go.Proofs.Ytennnhfaghdeoaa
open Go.ChangeShapes Go.WideShapes Go.ChangeAt Go.RowKit

theorem doK_len (X : WldK) (me : Int) (A : AccK) (f : Bool) : (doK X me A f).ws.length = X.ws.length := by
 unfold doK
 split
 ·split <;> rfl
 ·split
  ·split
   ·rename_i h; exact h
   ·rfl
  ·exact wordsK_length _ _
set_option maxRecDepth 100000 in
set_option maxHeartbeats 8000000 in
theorem tells10_walk (T C : Int) (A : Option Addr) (q c : Nat) (ws : List Int) (R : Int) (A0 A1 : Option Addr) (n0 c0 n1 c1 : Nat) (l0 l1 : List St) (me : Int) (a : AccK) (D : Option Addr) (m cd : Nat) (E : Option Addr) (p ce : Nat) (fail : Bool) (w : World) (hP : WldP w A q c ws R A0 A1 n0 c0 n1 c1 l0 l1) (ha : AccV w (.agg #[.int .i64 a.kind, .int .i64 a.cell, .int .u64 a.a, .int .u64 a.b, .slice D m cd, .slice E p ce]) a) (hml : a.data.length = m) (hmm : m ≤ 9223372036854775807) (hpp : p ≤ 9223372036854775807) :
  Calls Try.prog 5 #[.agg #[.int .i64 T, .int .i64 C, .slice A q c, .int .u64 R, .slice A0 n0 c0, .slice A1 n1 c1, .int .i64 me, .int .i64 a.kind, .int .i64 a.cell, .int .u64 a.a, .int .u64 a.b, .slice D m cd, .slice E p ce, .bool fail]] w fun e w' => e = .returned (.bool true) ∧ Ext w w' := by
 have hqc := Nat.le_trans hP.words.le hP.words.cap
 simp only [maxLen] at hqc
 have hW : Ext w (w.alloc (.cells #[.int .i64 T, .int .i64 C, .slice A q c, .int .u64 R, .slice A0 n0 c0, .slice A1 n1 c1, .int .i64 me, .int .i64 a.kind, .int .i64 a.cell, .int .u64 a.a, .int .u64 a.b, .slice D m cd, .slice E p ce, .bool fail] 70)) := (Below.refl _ w).alloc (Nat.le_refl _) _
 have hI := heap_alloc_new w (.cells #[.int .i64 T, .int .i64 C, .slice A q c, .int .u64 R, .slice A0 n0 c0, .slice A1 n1 c1, .int .i64 me, .int .i64 a.kind, .int .i64 a.cell, .int .u64 a.a, .int .u64 a.b, .slice D m cd, .slice E p ce, .bool fail] 70)
 go_enter Try.func5, Try.ntmps5
 go_upto_region 1 with (fail)
 generalize w.alloc (.cells #[.int .i64 T, .int .i64 C, .slice A q c, .int .u64 R, .slice A0 n0 c0, .slice A1 n1 c1, .int .i64 me, .int .i64 a.kind, .int .i64 a.cell, .int .u64 a.a, .int .u64 a.b, .slice D m cd, .slice E p ce, .bool fail] 70) = W0 at *
 generalize w.heap.size = g0 at *
 replace hP := hP.ext hW
 replace ha := ha.ext hW
 have i0 : W0.cell? ⟨g0, 0, none⟩ = some (.int .i64 T) := by simp [World.cell?, hI]
 have i1 : W0.cell? ⟨g0, 1, none⟩ = some (.int .i64 C) := by simp [World.cell?, hI]
 have i2 : W0.cell? ⟨g0, 2, none⟩ = some (.slice A q c) := by simp [World.cell?, hI]
 have i3 : W0.cell? ⟨g0, 3, none⟩ = some (.int .u64 R) := by simp [World.cell?, hI]
 have i4 : W0.cell? ⟨g0, 4, none⟩ = some (.slice A0 n0 c0) := by simp [World.cell?, hI]
 have i5 : W0.cell? ⟨g0, 5, none⟩ = some (.slice A1 n1 c1) := by simp [World.cell?, hI]
 have i6 : W0.cell? ⟨g0, 6, none⟩ = some (.int .i64 me) := by simp [World.cell?, hI]
 have i7 : W0.cell? ⟨g0, 7, none⟩ = some (.int .i64 a.kind) := by simp [World.cell?, hI]
 have i8 : W0.cell? ⟨g0, 8, none⟩ = some (.int .i64 a.cell) := by simp [World.cell?, hI]
 have i9 : W0.cell? ⟨g0, 9, none⟩ = some (.int .u64 a.a) := by simp [World.cell?, hI]
 have i10 : W0.cell? ⟨g0, 10, none⟩ = some (.int .u64 a.b) := by simp [World.cell?, hI]
 have i11 : W0.cell? ⟨g0, 11, none⟩ = some (.slice D m cd) := by simp [World.cell?, hI]
 have i12 : W0.cell? ⟨g0, 12, none⟩ = some (.slice E p ce) := by simp [World.cell?, hI]
 have i13 : W0.cell? ⟨g0, 13, none⟩ = some (.bool fail) := by simp [World.cell?, hI]
 go_upto_region 2 with (fail)
 have hx_ : Ext W0 (W0.alloc (.cells #[.int .i64 T, .int .i64 C, .slice A q c, .int .u64 R, .slice A0 n0 c0, .slice A1 n1 c1] 32)) := (Below.refl _ W0).alloc (Nat.le_refl _) _
 have hB := heap_alloc_new W0 (.cells #[.int .i64 T, .int .i64 C, .slice A q c, .int .u64 R, .slice A0 n0 c0, .slice A1 n1 c1] 32)
 generalize W0.alloc (.cells #[.int .i64 T, .int .i64 C, .slice A q c, .int .u64 R, .slice A0 n0 c0, .slice A1 n1 c1] 32) = W1 at *
 generalize W0.heap.size = gw at *
 clear i0 i1 i2 i3 i4 i5 i6 i7 i8 i9 i10 i11 i12 i13
 replace hI := heap_ext hI hx_
 replace hP := hP.ext hx_
 replace ha := ha.ext hx_
 replace hW := hW.trans hx_
 clear hx_
 have i0 : W1.cell? ⟨g0, 0, none⟩ = some (.int .i64 T) := by simp [World.cell?, hI]
 have i1 : W1.cell? ⟨g0, 1, none⟩ = some (.int .i64 C) := by simp [World.cell?, hI]
 have i2 : W1.cell? ⟨g0, 2, none⟩ = some (.slice A q c) := by simp [World.cell?, hI]
 have i3 : W1.cell? ⟨g0, 3, none⟩ = some (.int .u64 R) := by simp [World.cell?, hI]
 have i4 : W1.cell? ⟨g0, 4, none⟩ = some (.slice A0 n0 c0) := by simp [World.cell?, hI]
 have i5 : W1.cell? ⟨g0, 5, none⟩ = some (.slice A1 n1 c1) := by simp [World.cell?, hI]
 have i6 : W1.cell? ⟨g0, 6, none⟩ = some (.int .i64 me) := by simp [World.cell?, hI]
 have i7 : W1.cell? ⟨g0, 7, none⟩ = some (.int .i64 a.kind) := by simp [World.cell?, hI]
 have i8 : W1.cell? ⟨g0, 8, none⟩ = some (.int .i64 a.cell) := by simp [World.cell?, hI]
 have i9 : W1.cell? ⟨g0, 9, none⟩ = some (.int .u64 a.a) := by simp [World.cell?, hI]
 have i10 : W1.cell? ⟨g0, 10, none⟩ = some (.int .u64 a.b) := by simp [World.cell?, hI]
 have i11 : W1.cell? ⟨g0, 11, none⟩ = some (.slice D m cd) := by simp [World.cell?, hI]
 have i12 : W1.cell? ⟨g0, 12, none⟩ = some (.slice E p ce) := by simp [World.cell?, hI]
 have i13 : W1.cell? ⟨g0, 13, none⟩ = some (.bool fail) := by simp [World.cell?, hI]
 go_upto_region 4 with (fail)
 have hx_ : Ext W1 (W1.alloc (.cells #[.int .i64 a.kind, .int .i64 a.cell, .int .u64 a.a, .int .u64 a.b, .slice D m cd, .slice E p ce] 42)) := (Below.refl _ W1).alloc (Nat.le_refl _) _
 have hA := heap_alloc_new W1 (.cells #[.int .i64 a.kind, .int .i64 a.cell, .int .u64 a.a, .int .u64 a.b, .slice D m cd, .slice E p ce] 42)
 generalize W1.alloc (.cells #[.int .i64 a.kind, .int .i64 a.cell, .int .u64 a.a, .int .u64 a.b, .slice D m cd, .slice E p ce] 42) = W1b at *
 generalize W1.heap.size = ga at *
 clear i0 i1 i2 i3 i4 i5 i6 i7 i8 i9 i10 i11 i12 i13
 replace hI := heap_ext hI hx_
 replace hB := heap_ext hB hx_
 replace hP := hP.ext hx_
 replace ha := ha.ext hx_
 replace hW := hW.trans hx_
 clear hx_
 have i0 : W1b.cell? ⟨g0, 0, none⟩ = some (.int .i64 T) := by simp [World.cell?, hI]
 have i1 : W1b.cell? ⟨g0, 1, none⟩ = some (.int .i64 C) := by simp [World.cell?, hI]
 have i2 : W1b.cell? ⟨g0, 2, none⟩ = some (.slice A q c) := by simp [World.cell?, hI]
 have i3 : W1b.cell? ⟨g0, 3, none⟩ = some (.int .u64 R) := by simp [World.cell?, hI]
 have i4 : W1b.cell? ⟨g0, 4, none⟩ = some (.slice A0 n0 c0) := by simp [World.cell?, hI]
 have i5 : W1b.cell? ⟨g0, 5, none⟩ = some (.slice A1 n1 c1) := by simp [World.cell?, hI]
 have i6 : W1b.cell? ⟨g0, 6, none⟩ = some (.int .i64 me) := by simp [World.cell?, hI]
 have i7 : W1b.cell? ⟨g0, 7, none⟩ = some (.int .i64 a.kind) := by simp [World.cell?, hI]
 have i8 : W1b.cell? ⟨g0, 8, none⟩ = some (.int .i64 a.cell) := by simp [World.cell?, hI]
 have i9 : W1b.cell? ⟨g0, 9, none⟩ = some (.int .u64 a.a) := by simp [World.cell?, hI]
 have i10 : W1b.cell? ⟨g0, 10, none⟩ = some (.int .u64 a.b) := by simp [World.cell?, hI]
 have i11 : W1b.cell? ⟨g0, 11, none⟩ = some (.slice D m cd) := by simp [World.cell?, hI]
 have i12 : W1b.cell? ⟨g0, 12, none⟩ = some (.slice E p ce) := by simp [World.cell?, hI]
 have i13 : W1b.cell? ⟨g0, 13, none⟩ = some (.bool fail) := by simp [World.cell?, hI]
 go_upto_region 5 with (fail)
 clear i0 i1 i2 i3 i4 i5 i6 i7 i8 i9 i10 i11 i12 i13
 go_wp2_with fail
 refine (shown10_any _).mono ?_
 rintro e W2 ⟨rfl, hx⟩
 replace hI := heap_ext hI hx
 replace hB := heap_ext hB hx
 replace hA := heap_ext hA hx
 replace hP := hP.ext hx
 replace ha := ha.ext hx
 replace hW := hW.trans hx
 clear hx
 have e0 : W2.cell? ⟨gw, 0, none⟩ = some (.int .i64 T) := by simp [World.cell?, hB]
 have e1 : W2.cell? ⟨gw, 1, none⟩ = some (.int .i64 C) := by simp [World.cell?, hB]
 have e2 : W2.cell? ⟨gw, 2, none⟩ = some (.slice A q c) := by simp [World.cell?, hB]
 have e3 : W2.cell? ⟨gw, 3, none⟩ = some (.int .u64 R) := by simp [World.cell?, hB]
 have e4 : W2.cell? ⟨gw, 4, none⟩ = some (.slice A0 n0 c0) := by simp [World.cell?, hB]
 have e5 : W2.cell? ⟨gw, 5, none⟩ = some (.slice A1 n1 c1) := by simp [World.cell?, hB]
 rcases (Decidable.em (q ≤ 600)).symm with hq6 | hq6
 ·have hq6' : (600 : Int) < (q : Int) := by omega
  go_wp2
  go_ret
  exact ⟨rfl, hW⟩
 have hq6' : ¬ (600 : Int) < (q : Int) := by omega
 go_wp2_with fail
 refine (few7_sum R A0 A1 n0 c0 n1 c1 l0 l1 _ hP.row0 hP.row1 hP.z0 hP.z1).mono ?_
 rintro e W3 ⟨⟨few, rfl, hfew⟩, hx⟩
 clear e0 e1 e2 e3 e4 e5
 replace hI := heap_ext hI hx
 replace hB := heap_ext hB hx
 replace hA := heap_ext hA hx
 replace hP := hP.ext hx
 replace ha := ha.ext hx
 replace hW := hW.trans hx
 clear hx
 cases few
 ·go_wp2
  go_ret
  exact ⟨rfl, hW⟩
 obtain ⟨f1, f2, f3⟩ := hfew rfl
 clear hfew
 have f0 : W3.cell? ⟨ga, 0, none⟩ = some (.int .i64 a.kind) := by simp [World.cell?, hA]
 have f1 : W3.cell? ⟨ga, 1, none⟩ = some (.int .i64 a.cell) := by simp [World.cell?, hA]
 have f2 : W3.cell? ⟨ga, 2, none⟩ = some (.int .u64 a.a) := by simp [World.cell?, hA]
 have f3 : W3.cell? ⟨ga, 3, none⟩ = some (.int .u64 a.b) := by simp [World.cell?, hA]
 have f4 : W3.cell? ⟨ga, 4, none⟩ = some (.slice D m cd) := by simp [World.cell?, hA]
 have f5 : W3.cell? ⟨ga, 5, none⟩ = some (.slice E p ce) := by simp [World.cell?, hA]
 rcases (Decidable.em (m ≤ 500)).symm with hm5 | hm5
 ·have hm5' : (500 : Int) < (m : Int) := by omega
  go_wp2
  go_ret
  exact ⟨rfl, hW⟩
 have hm5' : ¬ (500 : Int) < (m : Int) := by omega
 rcases (Decidable.em (p ≤ 600)).symm with hp6 | hp6
 ·have hp6' : (600 : Int) < (p : Int) := by omega
  go_wp2
  go_ret
  exact ⟨rfl, hW⟩
 have hp6' : ¬ (600 : Int) < (p : Int) := by omega
 have e0 : W3.cell? ⟨gw, 0, none⟩ = some (.int .i64 T) := by simp [World.cell?, hB]
 have e1 : W3.cell? ⟨gw, 1, none⟩ = some (.int .i64 C) := by simp [World.cell?, hB]
 have e2 : W3.cell? ⟨gw, 2, none⟩ = some (.slice A q c) := by simp [World.cell?, hB]
 have e3 : W3.cell? ⟨gw, 3, none⟩ = some (.int .u64 R) := by simp [World.cell?, hB]
 have e4 : W3.cell? ⟨gw, 4, none⟩ = some (.slice A0 n0 c0) := by simp [World.cell?, hB]
 have e5 : W3.cell? ⟨gw, 5, none⟩ = some (.slice A1 n1 c1) := by simp [World.cell?, hB]
 go_wp2_with fail
 refine (raright_any T C A q c R A0 A1 n0 c0 n1 c1 l0 l1 _ hP.row0 hP.row1).mono ?_
 rintro e W4 ⟨rfl, hx⟩
 clear f0 f1 f2 f3 f4 f5 e0 e1 e2 e3 e4 e5
 replace hI := heap_ext hI hx
 replace hB := heap_ext hB hx
 replace hA := heap_ext hA hx
 replace hP := hP.ext hx
 replace ha := ha.ext hx
 replace hW := hW.trans hx
 clear hx
 generalize hrt : rightW T C q n0 n1 l0 l1 = rt at *
 have HRT := Lib.hid hrt
 have HP := Lib.hid hP
 clear hrt hP
 have f0 : W4.cell? ⟨ga, 0, none⟩ = some (.int .i64 a.kind) := by simp [World.cell?, hA]
 have f1 : W4.cell? ⟨ga, 1, none⟩ = some (.int .i64 a.cell) := by simp [World.cell?, hA]
 have f2 : W4.cell? ⟨ga, 2, none⟩ = some (.int .u64 a.a) := by simp [World.cell?, hA]
 have f3 : W4.cell? ⟨ga, 3, none⟩ = some (.int .u64 a.b) := by simp [World.cell?, hA]
 have f4 : W4.cell? ⟨ga, 4, none⟩ = some (.slice D m cd) := by simp [World.cell?, hA]
 have f5 : W4.cell? ⟨ga, 5, none⟩ = some (.slice E p ce) := by simp [World.cell?, hA]
 have e0 : W4.cell? ⟨gw, 0, none⟩ = some (.int .i64 T) := by simp [World.cell?, hB]
 have e1 : W4.cell? ⟨gw, 1, none⟩ = some (.int .i64 C) := by simp [World.cell?, hB]
 have e2 : W4.cell? ⟨gw, 2, none⟩ = some (.slice A q c) := by simp [World.cell?, hB]
 have e3 : W4.cell? ⟨gw, 3, none⟩ = some (.int .u64 R) := by simp [World.cell?, hB]
 have e4 : W4.cell? ⟨gw, 4, none⟩ = some (.slice A0 n0 c0) := by simp [World.cell?, hB]
 have e5 : W4.cell? ⟨gw, 5, none⟩ = some (.slice A1 n1 c1) := by simp [World.cell?, hB]
 go_upto_region 9 with (fail)
 clear f0 f1 f2 f3 f4 f5 e0 e1 e2 e3 e4 e5
 have hX : ∀ wx, Ext W4 wx → wx.cell? ⟨gw, 0, none⟩ = some (.int .i64 T) ∧ wx.cell? ⟨gw, 1, none⟩ = some (.int .i64 C) ∧ wx.cell? ⟨gw, 2, none⟩ = some (.slice A q c) ∧ wx.cell? ⟨gw, 3, none⟩ = some (.int .u64 R) ∧ wx.cell? ⟨gw, 4, none⟩ = some (.slice A0 n0 c0) ∧ wx.cell? ⟨gw, 5, none⟩ = some (.slice A1 n1 c1) ∧ wx.cell? ⟨ga, 0, none⟩ = some (.int .i64 a.kind) := fun wx hx =>
  ⟨hx.cell (by simp [World.cell?, hB]), hx.cell (by simp [World.cell?, hB]), hx.cell (by simp [World.cell?, hB]), hx.cell (by simp [World.cell?, hB]), hx.cell (by simp [World.cell?, hB]), hx.cell (by simp [World.cell?, hB]), hx.cell (by simp [World.cell?, hA])⟩
 have hk : a.kind < 5 ∨ (5 ≤ a.kind ∧ a.kind ≤ 12) ∨ (5 ≤ a.kind ∧ 12 < a.kind) := by omega
 have hdk : diskKind a.kind = (decide (5 ≤ a.kind) && decide (a.kind ≤ 12)) := rfl
 have HWL := Lib.hid (HP.out.words.len)
 rcases hk with hk | ⟨hk, hk2⟩ | ⟨hk, hk2⟩
 ·have hk' : ¬ 5 ≤ a.kind := by omega
  have HD := Lib.hid (show diskKind a.kind = false by rw [hdk]; simp [hk'])
  clear hdk
  refine' wp_region_sure_all ⟨((some 48, [], none) :: (some 49, [0], none) :: (some 50, [], none) :: (some 51, [1, 2], none) :: (some 52, [3, 1], none) :: (some 53, [4], some (4, false)) :: (some 54, [5, 4], some (4, false)) :: (some 55, [6, 4, 4], some (4, false)) :: (some 56, [4], some (4, false)) :: (some 57, [8, 4], some (4, false)) :: (some 58, [9, 4], some (4, false)) :: (some 59, [10, 7, 4], some (4, false)) :: (some 60, [11], some (11, true)) :: (some 61, [12, 11], some (11, true)) :: (some 62, [13, 11], some (11, true)) :: (some 63, [11, 14, 4], some (4, false)) :: (some 64, [7, 15, 4], some (4, false)) :: (some 65, [4, 16], none) :: []), (0 :: 1 :: 0 :: 7 :: 15 :: 31 :: 63 :: 127 :: 31 :: 287 :: 799 :: 2047 :: 4095 :: 8191 :: 16383 :: 32767 :: 65535 :: 131071 :: []), (true :: true :: true :: true :: true :: true :: true :: true :: true :: true :: true :: true :: true :: true :: true :: true :: true :: true :: []), [], 0⟩ 18 107 ((0, 48) :: (1, 49) :: (2, 50) :: (3, 51) :: (4, 52) :: (5, 53) :: (6, 54) :: (7, 55) :: (8, 56) :: (9, 57) :: (10, 58) :: (11, 59) :: (12, 60) :: (13, 61) :: (14, 62) :: (15, 63) :: (16, 64) :: (17, 65) :: []) ((0, 48) :: (1, 49) :: (2, 50) :: (3, 51) :: (4, 52) :: (5, 53) :: (6, 54) :: (7, 55) :: (8, 56) :: (9, 57) :: (10, 58) :: (11, 59) :: (12, 60) :: (13, 61) :: (14, 62) :: (15, 63) :: (16, 64) :: (17, 65) :: []) (.det _ :: .det _ :: .det _ :: .det _ :: .det _ :: .det _ :: .det _ :: .det _ :: .det _ :: .det _ :: .det _ :: .det _ :: .det _ :: .det _ :: .det _ :: .det _ :: .det _ :: .det _ :: []) (by kernel_rfl) (by kernel_rfl) (by kernel_rfl) rfl (by kernel_rfl) (by kernel_rfl) rfl (by kernel_rfl) ?hone ?hend
  case hone =>
   intro CS frS VS hCS ha hV
   have qs3 := slot_val (t := 3) ha rfl
   simp only [List.getElem_toArray, List.getElem_cons_succ, List.getElem_cons_zero] at qs3
   have qs5 := slot_val (t := 5) ha rfl
   simp only [List.getElem_toArray, List.getElem_cons_succ, List.getElem_cons_zero] at qs5
   have qs8 := slot_val (t := 8) ha rfl
   simp only [List.getElem_toArray, List.getElem_cons_succ, List.getElem_cons_zero] at qs8
   have HCS := Lib.hid hCS
   have HVS := Lib.hid hV
   clear ha hCS hV
   refine sure_det (js := []) (ts := [3]) (gd := none) (place_at HVS.out (k := 0) rfl) (by rw [HCS.out]; kernel_rfl) ?_ ?_
   ·intro wx hx ρ hρ hs hf; have hρc := hρ.const; have hρf := hρ.func
    obtain ⟨fx3, -⟩ := hf; rw [qs3] at fx3
    clear hs
    clear HCS HVS qs3 qs5 qs8
    refine run_plain ?_
    obtain ⟨c0, c1, c2, c3, c4, c5, c6⟩ := hX wx hx.drawn
    unfold runs
    go_simp
    exact detK.mk
   refine sure_det (js := [(0, 48)]) (ts := []) (gd := none) (place_at HVS.out (k := 1) rfl) (by rw [HCS.out]; kernel_rfl) ?_ ?_
   ·intro wx hx ρ hρ hs hf; have hρc := hρ.const; have hρf := hρ.func; obtain ⟨sn0, -⟩ := hs; rw [place_at HVS.out (k := 0) rfl] at sn0; replace sn0 : ρ (.tmp 48) = _ := sn0
    clear hf
    clear HCS HVS qs3 qs5 qs8
    refine run_plain ?_
    refine op_call rfl hρ Try.call35 (map_one sn0) ?_
    first | ((with_reducible refine Calls.mono (adisk_any _ _) ?_); rintro e w' ⟨rfl, rfl⟩; refine ⟨_, rfl, ?_⟩; rw [HD.out]; exact detK.mk) | ((with_reducible refine Calls.mono (accright_any T C A q c R A0 A1 n0 c0 n1 c1 l0 l1 _ (HP.out.row0.ext hx.drawn) (HP.out.row1.ext hx.drawn)) ?_); rintro e w' ⟨rfl, hx5⟩; refine ⟨_, rfl, ?_⟩; rw [HRT.out]; exact detK.ext hx5)
   refine sure_det (js := []) (ts := [8]) (gd := none) (place_at HVS.out (k := 2) rfl) (by rw [HCS.out]; kernel_rfl) ?_ ?_
   ·intro wx hx ρ hρ hs hf; have hρc := hρ.const; have hρf := hρ.func
    obtain ⟨fx8, -⟩ := hf; rw [qs8] at fx8
    clear hs
    clear HCS HVS qs3 qs5 qs8
    refine run_plain ?_
    refine op_move rfl fx8 ?_
    exact detK.mk
   refine sure_det (js := [(1, 49), (2, 50)]) (ts := []) (gd := none) (place_at HVS.out (k := 3) rfl) (by rw [HCS.out]; kernel_rfl) ?_ ?_
   ·intro wx hx ρ hρ hs hf; have hρc := hρ.const; have hρf := hρ.func; obtain ⟨sn1, sn2, -⟩ := hs; rw [place_at HVS.out (k := 1) rfl] at sn1; replace sn1 : ρ (.tmp 49) = _ := sn1; rw [place_at HVS.out (k := 2) rfl] at sn2; replace sn2 : ρ (.tmp 50) = _ := sn2
    clear hf
    clear HCS HVS qs3 qs5 qs8
    refine run_plain ?_
    unfold runs
    go_simp
    exact detK.mk
   refine sure_det (js := [(3, 51)]) (ts := []) (gd := none) (place_at HVS.out (k := 4) rfl) (by rw [HCS.out]; kernel_rfl) ?_ ?_
   ·intro wx hx ρ hρ hs hf; have hρc := hρ.const; have hρf := hρ.func; obtain ⟨sn3, -⟩ := hs; rw [place_at HVS.out (k := 3) rfl] at sn3; replace sn3 : ρ (.tmp 51) = _ := sn3
    clear hf
    clear HCS HVS qs3 qs5 qs8
    refine run_plain ?_
    refine op_move rfl sn3 ?_
    exact detK.mk
   refine sure_det (js := [(4, 52)]) (ts := [5]) (gd := (some (52, false))) (place_at HVS.out (k := 5) rfl) (by rw [HCS.out]; kernel_rfl) ?_ ?_
   ·intro wx hx ρ hρ hs hf; have hρc := hρ.const; have hρf := hρ.func; obtain ⟨sn4, -⟩ := hs
    obtain ⟨fx5, -⟩ := hf; rw [qs5] at fx5; rw [place_at HVS.out (k := 4) rfl] at sn4; replace sn4 : ρ (.tmp 52) = _ := sn4
    clear HCS HVS qs3 qs5 qs8
    first
     | (refine run_passed sn4 ?_; exact detK.mk)
     | (refine run_undef sn4 ?_; exact detK.mk)
     | (refine run_guarded sn4 ?_; unfold runs; go_simp; exact detK.mk)
   refine sure_det (js := [(5, 53), (4, 52)]) (ts := []) (gd := (some (52, false))) (place_at HVS.out (k := 6) rfl) (by rw [HCS.out]; kernel_rfl) ?_ ?_
   ·intro wx hx ρ hρ hs hf; have hρc := hρ.const; have hρf := hρ.func; obtain ⟨sn5, sn4, -⟩ := hs; rw [place_at HVS.out (k := 5) rfl] at sn5; replace sn5 : ρ (.tmp 53) = _ := sn5; rw [place_at HVS.out (k := 4) rfl] at sn4; replace sn4 : ρ (.tmp 52) = _ := sn4
    clear hf
    clear HCS HVS qs3 qs5 qs8
    first
     | (refine run_passed sn4 ?_; exact detK.mk)
     | (refine run_undef sn4 ?_; exact detK.mk)
     | (refine run_guarded sn4 ?_; obtain ⟨c0, c1, c2, c3, c4, c5, c6⟩ := hX wx hx.drawn; unfold runs; go_simp; exact detK.mk)
   refine sure_det (js := [(6, 54), (4, 52)]) (ts := []) (gd := (some (52, false))) (place_at HVS.out (k := 7) rfl) (by rw [HCS.out]; kernel_rfl) ?_ ?_
   ·intro wx hx ρ hρ hs hf; have hρc := hρ.const; have hρf := hρ.func; obtain ⟨sn6, sn4, -⟩ := hs; rw [place_at HVS.out (k := 6) rfl] at sn6; replace sn6 : ρ (.tmp 54) = _ := sn6; rw [place_at HVS.out (k := 4) rfl] at sn4; replace sn4 : ρ (.tmp 52) = _ := sn4
    clear hf
    clear HCS HVS qs3 qs5 qs8
    first
     | (refine run_passed sn4 ?_; exact detK.mk)
     | (refine run_undef sn4 ?_; exact detK.mk)
     | (refine run_guarded sn4 ?_; refine op_call rfl hρ Try.call36 (map_one sn6) ?_; (first | ((with_reducible refine Calls.mono (adisk_any _ _) ?_); rintro e w' ⟨rfl, rfl⟩; refine ⟨_, rfl, ?_⟩; rw [HD.out]; exact detK.mk) | ((with_reducible refine Calls.mono (accright_any T C A q c R A0 A1 n0 c0 n1 c1 l0 l1 _ (HP.out.row0.ext hx.drawn) (HP.out.row1.ext hx.drawn)) ?_); rintro e w' ⟨rfl, hx5⟩; refine ⟨_, rfl, ?_⟩; rw [HRT.out]; exact detK.ext hx5)))
   refine sure_det (js := [(4, 52)]) (ts := [5]) (gd := (some (52, false))) (place_at HVS.out (k := 8) rfl) (by rw [HCS.out]; kernel_rfl) ?_ ?_
   ·intro wx hx ρ hρ hs hf; have hρc := hρ.const; have hρf := hρ.func; obtain ⟨sn4, -⟩ := hs
    obtain ⟨fx5, -⟩ := hf; rw [qs5] at fx5; rw [place_at HVS.out (k := 4) rfl] at sn4; replace sn4 : ρ (.tmp 52) = _ := sn4
    clear HCS HVS qs3 qs5 qs8
    first
     | (refine run_passed sn4 ?_; exact detK.mk)
     | (refine run_undef sn4 ?_; exact detK.mk)
     | (refine run_guarded sn4 ?_; unfold runs; go_simp; exact detK.mk)
   refine sure_det (js := [(8, 56), (4, 52)]) (ts := []) (gd := (some (52, false))) (place_at HVS.out (k := 9) rfl) (by rw [HCS.out]; kernel_rfl) ?_ ?_
   ·intro wx hx ρ hρ hs hf; have hρc := hρ.const; have hρf := hρ.func; obtain ⟨sn8, sn4, -⟩ := hs; rw [place_at HVS.out (k := 8) rfl] at sn8; replace sn8 : ρ (.tmp 56) = _ := sn8; rw [place_at HVS.out (k := 4) rfl] at sn4; replace sn4 : ρ (.tmp 52) = _ := sn4
    clear hf
    clear HCS HVS qs3 qs5 qs8
    first
     | (refine run_passed sn4 ?_; exact detK.mk)
     | (refine run_undef sn4 ?_; exact detK.mk)
     | (refine run_guarded sn4 ?_; obtain ⟨c0, c1, c2, c3, c4, c5, c6⟩ := hX wx hx.drawn; unfold runs; go_simp; exact detK.mk)
   refine sure_det (js := [(9, 57), (4, 52)]) (ts := []) (gd := (some (52, false))) (place_at HVS.out (k := 10) rfl) (by rw [HCS.out]; kernel_rfl) ?_ ?_
   ·intro wx hx ρ hρ hs hf; have hρc := hρ.const; have hρf := hρ.func; obtain ⟨sn9, sn4, -⟩ := hs; rw [place_at HVS.out (k := 9) rfl] at sn9; replace sn9 : ρ (.tmp 57) = _ := sn9; rw [place_at HVS.out (k := 4) rfl] at sn4; replace sn4 : ρ (.tmp 52) = _ := sn4
    clear hf
    clear HCS HVS qs3 qs5 qs8
    first
     | (refine run_passed sn4 ?_; exact detK.mk)
     | (refine run_undef sn4 ?_; exact detK.mk)
     | (refine run_guarded sn4 ?_; unfold runs; go_simp; exact detK.mk)
   refine sure_det (js := [(10, 58), (4, 52)]) (ts := []) (gd := (some (52, false))) (place_at HVS.out (k := 11) rfl) (by rw [HCS.out]; kernel_rfl) ?_ ?_
   ·intro wx hx ρ hρ hs hf; have hρc := hρ.const; have hρf := hρ.func; obtain ⟨sn10, sn4, -⟩ := hs; rw [place_at HVS.out (k := 10) rfl] at sn10; replace sn10 : ρ (.tmp 58) = _ := sn10; rw [place_at HVS.out (k := 4) rfl] at sn4; replace sn4 : ρ (.tmp 52) = _ := sn4
    clear hf
    clear HCS HVS qs3 qs5 qs8
    first
     | (refine run_passed sn4 ?_; exact detK.mk)
     | (refine run_undef sn4 ?_; exact detK.mk)
     | (refine run_guarded sn4 ?_; refine op_move rfl sn10 ?_; exact detK.mk)
   refine sure_det (js := [(11, 59)]) (ts := [5]) (gd := (some (59, true))) (place_at HVS.out (k := 12) rfl) (by rw [HCS.out]; kernel_rfl) ?_ ?_
   ·intro wx hx ρ hρ hs hf; have hρc := hρ.const; have hρf := hρ.func; obtain ⟨sn11, -⟩ := hs
    obtain ⟨fx5, -⟩ := hf; rw [qs5] at fx5; rw [place_at HVS.out (k := 11) rfl] at sn11; replace sn11 : ρ (.tmp 59) = _ := sn11
    clear HCS HVS qs3 qs5 qs8
    first
     | (refine run_passed sn11 ?_; exact detK.mk)
     | (refine run_undef sn11 ?_; exact detK.mk)
     | (refine run_guarded sn11 ?_; unfold runs; go_simp; exact detK.mk)
   refine sure_det (js := [(12, 60), (11, 59)]) (ts := []) (gd := (some (59, true))) (place_at HVS.out (k := 13) rfl) (by rw [HCS.out]; kernel_rfl) ?_ ?_
   ·intro wx hx ρ hρ hs hf; have hρc := hρ.const; have hρf := hρ.func; obtain ⟨sn12, sn11, -⟩ := hs; rw [place_at HVS.out (k := 12) rfl] at sn12; replace sn12 : ρ (.tmp 60) = _ := sn12; rw [place_at HVS.out (k := 11) rfl] at sn11; replace sn11 : ρ (.tmp 59) = _ := sn11
    clear hf
    clear HCS HVS qs3 qs5 qs8
    first
     | (refine run_passed sn11 ?_; exact detK.mk)
     | (refine run_undef sn11 ?_; exact detK.mk)
     | (refine run_guarded sn11 ?_; obtain ⟨c0, c1, c2, c3, c4, c5, c6⟩ := hX wx hx.drawn; unfold runs; go_simp; exact detK.mk)
   refine sure_det (js := [(13, 61), (11, 59)]) (ts := []) (gd := (some (59, true))) (place_at HVS.out (k := 14) rfl) (by rw [HCS.out]; kernel_rfl) ?_ ?_
   ·intro wx hx ρ hρ hs hf; have hρc := hρ.const; have hρf := hρ.func; obtain ⟨sn13, sn11, -⟩ := hs; rw [place_at HVS.out (k := 13) rfl] at sn13; replace sn13 : ρ (.tmp 61) = _ := sn13; rw [place_at HVS.out (k := 11) rfl] at sn11; replace sn11 : ρ (.tmp 59) = _ := sn11
    clear hf
    clear HCS HVS qs3 qs5 qs8
    first
     | (refine run_passed sn11 ?_; exact detK.mk)
     | (refine run_undef sn11 ?_; exact detK.mk)
     | (refine run_guarded sn11 ?_; unfold runs; go_simp; exact detK.mk)
   refine sure_det (js := [(11, 59), (14, 62), (4, 52)]) (ts := []) (gd := (some (52, false))) (place_at HVS.out (k := 15) rfl) (by rw [HCS.out]; kernel_rfl) ?_ ?_
   ·intro wx hx ρ hρ hs hf; have hρc := hρ.const; have hρf := hρ.func; obtain ⟨sn11, sn14, sn4, -⟩ := hs; rw [place_at HVS.out (k := 11) rfl] at sn11; replace sn11 : ρ (.tmp 59) = _ := sn11; rw [place_at HVS.out (k := 14) rfl] at sn14; replace sn14 : ρ (.tmp 62) = _ := sn14; rw [place_at HVS.out (k := 4) rfl] at sn4; replace sn4 : ρ (.tmp 52) = _ := sn4
    clear hf
    clear HCS HVS qs3 qs5 qs8
    first
     | (refine run_passed sn4 ?_; exact detK.mk)
     | (refine run_undef sn4 ?_; exact detK.mk)
     | (refine run_guarded sn4 ?_; (first | refine op_pick_t rfl sn11 sn14 ?_ | refine op_pick_f rfl sn11 (hρ.const _) ?_); exact detK.mk)
   refine sure_det (js := [(7, 55), (15, 63), (4, 52)]) (ts := []) (gd := (some (52, false))) (place_at HVS.out (k := 16) rfl) (by rw [HCS.out]; kernel_rfl) ?_ ?_
   ·intro wx hx ρ hρ hs hf; have hρc := hρ.const; have hρf := hρ.func; obtain ⟨sn7, sn15, sn4, -⟩ := hs; rw [place_at HVS.out (k := 7) rfl] at sn7; replace sn7 : ρ (.tmp 55) = _ := sn7; rw [place_at HVS.out (k := 15) rfl] at sn15; replace sn15 : ρ (.tmp 63) = _ := sn15; rw [place_at HVS.out (k := 4) rfl] at sn4; replace sn4 : ρ (.tmp 52) = _ := sn4
    clear hf
    clear HCS HVS qs3 qs5 qs8
    first
     | (refine run_passed sn4 ?_; exact detK.mk)
     | (refine run_undef sn4 ?_; exact detK.mk)
     | (refine run_guarded sn4 ?_; unfold runs; go_simp; exact detK.mk)
   refine sure_det (js := [(4, 52), (16, 64)]) (ts := []) (gd := none) (place_at HVS.out (k := 17) rfl) (by rw [HCS.out]; kernel_rfl) ?_ ?_
   ·intro wx hx ρ hρ hs hf; have hρc := hρ.const; have hρf := hρ.func; obtain ⟨sn4, sn16, -⟩ := hs; rw [place_at HVS.out (k := 4) rfl] at sn4; replace sn4 : ρ (.tmp 52) = _ := sn4; rw [place_at HVS.out (k := 16) rfl] at sn16; replace sn16 : ρ (.tmp 64) = _ := sn16
    clear hf
    clear HCS HVS qs3 qs5 qs8
    refine run_plain ?_
    first | refine op_pick_t rfl sn4 (hρ.const _) ?_ | refine op_pick_f rfl sn4 sn16 ?_
    exact detK.mk
   exact trivial
  case hend =>
   intro xs wx hx hg
   have gk0 : xs 0 = _ := goods_get hg (i := 0) (j := 0) (d := 48) rfl
   have gk1 : xs 1 = _ := goods_get hg (i := 1) (j := 1) (d := 49) rfl
   have gk2 : xs 2 = _ := goods_get hg (i := 2) (j := 2) (d := 50) rfl
   have gk3 : xs 3 = _ := goods_get hg (i := 3) (j := 3) (d := 51) rfl
   have gk4 : xs 4 = _ := goods_get hg (i := 4) (j := 4) (d := 52) rfl
   have gk5 : xs 5 = _ := goods_get hg (i := 5) (j := 5) (d := 53) rfl
   have gk6 : xs 6 = _ := goods_get hg (i := 6) (j := 6) (d := 54) rfl
   have gk7 : xs 7 = _ := goods_get hg (i := 7) (j := 7) (d := 55) rfl
   have gk8 : xs 8 = _ := goods_get hg (i := 8) (j := 8) (d := 56) rfl
   have gk9 : xs 9 = _ := goods_get hg (i := 9) (j := 9) (d := 57) rfl
   have gk10 : xs 10 = _ := goods_get hg (i := 10) (j := 10) (d := 58) rfl
   have gk11 : xs 11 = _ := goods_get hg (i := 11) (j := 11) (d := 59) rfl
   have gk12 : xs 12 = _ := goods_get hg (i := 12) (j := 12) (d := 60) rfl
   have gk13 : xs 13 = _ := goods_get hg (i := 13) (j := 13) (d := 61) rfl
   have gk14 : xs 14 = _ := goods_get hg (i := 14) (j := 14) (d := 62) rfl
   have gk15 : xs 15 = _ := goods_get hg (i := 15) (j := 15) (d := 63) rfl
   have gk16 : xs 16 = _ := goods_get hg (i := 16) (j := 16) (d := 64) rfl
   have gk17 : xs 17 = _ := goods_get hg (i := 17) (j := 17) (d := 65) rfl
   clear hg
   simp only [putAll, gk0, gk1, gk2, gk3, gk4, gk5, gk6, gk7, gk8, gk9, gk10, gk11, gk12, gk13, gk14, gk15, gk16, gk17]
   clear gk0 gk1 gk2 gk3 gk4 gk5 gk6 gk7 gk8 gk9 gk10 gk11 gk12 gk13 gk14 gk15 gk16 gk17
   clear xs
   simp only [Act.put, List.setIfInBounds_toArray, List.set_cons_zero, List.set_cons_succ]
   clear hX
   go_upto_region 11 with (fail)
   have hP := HP.out
   have hx_ := hx.drawn
   replace hI := heap_ext hI hx_
   replace hB := heap_ext hB hx_
   replace hA := heap_ext hA hx_
   replace ha := ha.ext hx_
   replace hP := hP.ext hx_
   replace hW := hW.trans hx_
   clear hx_ hx
   have e0 : wx.cell? ⟨gw, 0, none⟩ = some (.int .i64 T) := by simp [World.cell?, hB]
   have e1 : wx.cell? ⟨gw, 1, none⟩ = some (.int .i64 C) := by simp [World.cell?, hB]
   have e2 : wx.cell? ⟨gw, 2, none⟩ = some (.slice A q c) := by simp [World.cell?, hB]
   have e3 : wx.cell? ⟨gw, 3, none⟩ = some (.int .u64 R) := by simp [World.cell?, hB]
   have e4 : wx.cell? ⟨gw, 4, none⟩ = some (.slice A0 n0 c0) := by simp [World.cell?, hB]
   have e5 : wx.cell? ⟨gw, 5, none⟩ = some (.slice A1 n1 c1) := by simp [World.cell?, hB]
   cases rt
   ·go_wp2
    go_ret
    exact ⟨rfl, hW⟩
   rcases (Decidable.em (0 ≤ me)).symm with hm0 | hm0
   ·have hm0' : me < 0 := by omega
    go_wp2
    go_ret
    exact ⟨rfl, hW⟩
   have hm0' : ¬ me < 0 := by omega
   rcases (Decidable.em (me < T)).symm with hm1 | hm1
   ·have hm1' : T ≤ me := by omega
    go_wp2
    go_ret
    exact ⟨rfl, hW⟩
   have hm1' : ¬ T ≤ me := by omega
   obtain ⟨rfl, hnT, hmay, hqq, hF, hV⟩ := hP.small HRT.out f3 hq6
   have HQ := Lib.hid hqq
   have HN := Lib.hid hnT
   clear hqq hnT hmay HP HRT f1 f2 f3 hP
   generalize hX0 : (⟨T, C, ws, R, n1, l0.map St.key, l1.map St.key⟩ : WldK) = X0 at *
   have HL : X0.ws.length = ws.length := by rw [← hX0]
   have HLL := Lib.hid HL
   clear hX0 HL
   have f0 : wx.cell? ⟨ga, 0, none⟩ = some (.int .i64 a.kind) := by simp [World.cell?, hA]
   have f1 : wx.cell? ⟨ga, 1, none⟩ = some (.int .i64 a.cell) := by simp [World.cell?, hA]
   have f2 : wx.cell? ⟨ga, 2, none⟩ = some (.int .u64 a.a) := by simp [World.cell?, hA]
   have f3 : wx.cell? ⟨ga, 3, none⟩ = some (.int .u64 a.b) := by simp [World.cell?, hA]
   have f4 : wx.cell? ⟨ga, 4, none⟩ = some (.slice D m cd) := by simp [World.cell?, hA]
   have f5 : wx.cell? ⟨ga, 5, none⟩ = some (.slice E p ce) := by simp [World.cell?, hA]
   clear e0 e1 e2 e3 e4 e5
   have e0 : wx.cell? ⟨gw, 0, none⟩ = some (.int .i64 T) := by simp [World.cell?, hB]
   have e1 : wx.cell? ⟨gw, 1, none⟩ = some (.int .i64 C) := by simp [World.cell?, hB]
   have e2 : wx.cell? ⟨gw, 2, none⟩ = some (.slice A q c) := by simp [World.cell?, hB]
   have e3 : wx.cell? ⟨gw, 3, none⟩ = some (.int .u64 R) := by simp [World.cell?, hB]
   have e4 : wx.cell? ⟨gw, 4, none⟩ = some (.slice A0 n1 c0) := by simp [World.cell?, hB]
   have e5 : wx.cell? ⟨gw, 5, none⟩ = some (.slice A1 n1 c1) := by simp [World.cell?, hB]
   go_wp2_with fail
   refine (do_all _ _ X0 me a fail _ hV ha (hF.le_ (by unfold useM; split <;> omega))).mono ?_
   rintro e u1 ⟨v1, r1, rfl, hV1, hR1, hu_⟩
   generalize hX1 : doK X0 me a fail = X1 at hV1
   generalize hY1 : doR X0 a fail = R1 at hR1
   have hX1 := Lib.hid hX1
   have hY1 := Lib.hid hY1
   have hV1_ := hV1
   have hR1_ := hR1
   obtain ⟨xA1, xq1, xc1, xB1, xC1, xb1, xd1, rfl, hw1, hd1⟩ := hV1_
   obtain ⟨yS1, ys1, yt1, rfl, hs1⟩ := hR1_
   clear e0 e1 e2 e3 e4 e5 f0 f1 f2 f3 f4 f5
   replace hI := heap_ext hI hu_
   replace hB := heap_ext hB hu_
   replace hA := heap_ext hA hu_
   replace ha := ha.ext hu_
   replace hV := hV.ext hu_
   replace hW := hW.trans hu_
   clear hu_
   go_upto_region 14 with (fail)
   obtain ⟨hx_, hbx1, hrx1⟩ := two_boxes7 u1 (.cells #[.int .i64 X1.T, .int .i64 X1.C, .slice xA1 xq1 xc1, .int .u64 X1.R, .slice xB1 X1.n xb1, .slice xC1 X1.n xd1] 32) (.cells #[.int .u64 R1.N, .slice yS1 ys1 yt1, .bool R1.fail] 51)
   generalize (u1.alloc (.cells #[.int .i64 X1.T, .int .i64 X1.C, .slice xA1 xq1 xc1, .int .u64 X1.R, .slice xB1 X1.n xb1, .slice xC1 X1.n xd1] 32)).alloc (.cells #[.int .u64 R1.N, .slice yS1 ys1 yt1, .bool R1.fail] 51) = U1 at *
   generalize u1.heap.size = g1 at *
   replace hI := heap_ext hI hx_
   replace hB := heap_ext hB hx_
   replace hA := heap_ext hA hx_
   replace ha := ha.ext hx_
   replace hV := hV.ext hx_
   replace hV1 := hV1.ext hx_
   replace hR1 := hR1.ext hx_
   replace hw1 := hw1.ext hx_
   replace hs1 := hs1.ext hx_
   replace hW := hW.trans hx_
   clear hx_
   have f0 : U1.cell? ⟨ga, 0, none⟩ = some (.int .i64 a.kind) := by simp [World.cell?, hA]
   have f1 : U1.cell? ⟨ga, 1, none⟩ = some (.int .i64 a.cell) := by simp [World.cell?, hA]
   have f2 : U1.cell? ⟨ga, 2, none⟩ = some (.int .u64 a.a) := by simp [World.cell?, hA]
   have f3 : U1.cell? ⟨ga, 3, none⟩ = some (.int .u64 a.b) := by simp [World.cell?, hA]
   have f4 : U1.cell? ⟨ga, 4, none⟩ = some (.slice D m cd) := by simp [World.cell?, hA]
   have f5 : U1.cell? ⟨ga, 5, none⟩ = some (.slice E p ce) := by simp [World.cell?, hA]
   have e0 : U1.cell? ⟨gw, 0, none⟩ = some (.int .i64 T) := by simp [World.cell?, hB]
   have e1 : U1.cell? ⟨gw, 1, none⟩ = some (.int .i64 C) := by simp [World.cell?, hB]
   have e2 : U1.cell? ⟨gw, 2, none⟩ = some (.slice A q c) := by simp [World.cell?, hB]
   have e3 : U1.cell? ⟨gw, 3, none⟩ = some (.int .u64 R) := by simp [World.cell?, hB]
   have e4 : U1.cell? ⟨gw, 4, none⟩ = some (.slice A0 n1 c0) := by simp [World.cell?, hB]
   have e5 : U1.cell? ⟨gw, 5, none⟩ = some (.slice A1 n1 c1) := by simp [World.cell?, hB]
   go_wp2_with fail
   refine (rdo_all _ _ X0 me a fail _ hV ha (hF.le_ (by unfold useM; split <;> omega))).mono ?_
   rintro e u2 ⟨v2, r2, rfl, hV2, hR2, hu_⟩
   rw [hX1.out] at hV2
   rw [hY1.out] at hR2
   have hV2_ := hV2
   have hR2_ := hR2
   obtain ⟨xA2, xq2, xc2, xB2, xC2, xb2, xd2, rfl, hw2, hd2⟩ := hV2_
   obtain ⟨yS2, ys2, yt2, rfl, hs2⟩ := hR2_
   clear f0 f1 f2 f3 f4 f5 e0 e1 e2 e3 e4 e5
   replace hI := heap_ext hI hu_
   replace hB := heap_ext hB hu_
   replace hA := heap_ext hA hu_
   replace hbx1 := heap_ext hbx1 hu_
   replace hrx1 := heap_ext hrx1 hu_
   replace ha := ha.ext hu_
   replace hV := hV.ext hu_
   replace hV1 := hV1.ext hu_
   replace hR1 := hR1.ext hu_
   replace hw1 := hw1.ext hu_
   replace hs1 := hs1.ext hu_
   replace hW := hW.trans hu_
   clear hu_
   go_upto_region 15 with (fail)
   obtain ⟨hx_, hbx2, hrx2⟩ := two_boxes7 u2 (.cells #[.int .i64 X1.T, .int .i64 X1.C, .slice xA2 xq2 xc2, .int .u64 X1.R, .slice xB2 X1.n xb2, .slice xC2 X1.n xd2] 32) (.cells #[.int .u64 R1.N, .slice yS2 ys2 yt2, .bool R1.fail] 51)
   generalize (u2.alloc (.cells #[.int .i64 X1.T, .int .i64 X1.C, .slice xA2 xq2 xc2, .int .u64 X1.R, .slice xB2 X1.n xb2, .slice xC2 X1.n xd2] 32)).alloc (.cells #[.int .u64 R1.N, .slice yS2 ys2 yt2, .bool R1.fail] 51) = U2 at *
   generalize u2.heap.size = g2 at *
   replace hI := heap_ext hI hx_
   replace hB := heap_ext hB hx_
   replace hA := heap_ext hA hx_
   replace hbx1 := heap_ext hbx1 hx_
   replace hrx1 := heap_ext hrx1 hx_
   replace ha := ha.ext hx_
   replace hV := hV.ext hx_
   replace hV1 := hV1.ext hx_
   replace hR1 := hR1.ext hx_
   replace hw1 := hw1.ext hx_
   replace hs1 := hs1.ext hx_
   replace hV2 := hV2.ext hx_
   replace hR2 := hR2.ext hx_
   replace hw2 := hw2.ext hx_
   replace hs2 := hs2.ext hx_
   replace hW := hW.trans hx_
   clear hx_
   have hn : X1.ws.length ≤ 1000000 := by
    have h1 := doK_len X0 me a fail
    rw [hX1.out, HLL.out, HWL.out] at h1
    omega
   have x0 : U2.cell? ⟨g1, 0, none⟩ = some (.int .i64 X1.T) := by simp [World.cell?, hbx1]
   have x1 : U2.cell? ⟨g1, 1, none⟩ = some (.int .i64 X1.C) := by simp [World.cell?, hbx1]
   have x2 : U2.cell? ⟨g1, 2, none⟩ = some (.slice xA1 xq1 xc1) := by simp [World.cell?, hbx1]
   have x3 : U2.cell? ⟨g1, 3, none⟩ = some (.int .u64 X1.R) := by simp [World.cell?, hbx1]
   have x4 : U2.cell? ⟨g1, 4, none⟩ = some (.slice xB1 X1.n xb1) := by simp [World.cell?, hbx1]
   have x5 : U2.cell? ⟨g1, 5, none⟩ = some (.slice xC1 X1.n xd1) := by simp [World.cell?, hbx1]
   have y0 : U2.cell? ⟨g2, 0, none⟩ = some (.int .i64 X1.T) := by simp [World.cell?, hbx2]
   have y1 : U2.cell? ⟨g2, 1, none⟩ = some (.int .i64 X1.C) := by simp [World.cell?, hbx2]
   have y2 : U2.cell? ⟨g2, 2, none⟩ = some (.slice xA2 xq2 xc2) := by simp [World.cell?, hbx2]
   have y3 : U2.cell? ⟨g2, 3, none⟩ = some (.int .u64 X1.R) := by simp [World.cell?, hbx2]
   have y4 : U2.cell? ⟨g2, 4, none⟩ = some (.slice xB2 X1.n xb2) := by simp [World.cell?, hbx2]
   have y5 : U2.cell? ⟨g2, 5, none⟩ = some (.slice xC2 X1.n xd2) := by simp [World.cell?, hbx2]
   have r0 : U2.cell? ⟨g1 + 1, 0, none⟩ = some (.int .u64 R1.N) := by simp [World.cell?, hrx1]
   have r1 : U2.cell? ⟨g1 + 1, 1, none⟩ = some (.slice yS1 ys1 yt1) := by simp [World.cell?, hrx1]
   have r2 : U2.cell? ⟨g1 + 1, 2, none⟩ = some (.bool R1.fail) := by simp [World.cell?, hrx1]
   have s0 : U2.cell? ⟨g2 + 1, 0, none⟩ = some (.int .u64 R1.N) := by simp [World.cell?, hrx2]
   have s1 : U2.cell? ⟨g2 + 1, 1, none⟩ = some (.slice yS2 ys2 yt2) := by simp [World.cell?, hrx2]
   have s2 : U2.cell? ⟨g2 + 1, 2, none⟩ = some (.bool R1.fail) := by simp [World.cell?, hrx2]
   go_wp2_with fail
   refine (rasame_yes hV1 hV2 hn).mono ?_
   rintro e U3 ⟨rfl, hx⟩
   clear x0 x1 x2 x3 x4 x5 y0 y1 y2 y3 y4 y5 r0 r1 r2 s0 s1 s2
   replace hI := heap_ext hI hx
   replace hB := heap_ext hB hx
   replace hA := heap_ext hA hx
   replace hbx1 := heap_ext hbx1 hx
   replace hrx1 := heap_ext hrx1 hx
   replace hbx2 := heap_ext hbx2 hx
   replace hrx2 := heap_ext hrx2 hx
   replace ha := ha.ext hx
   replace hV := hV.ext hx
   replace hV1 := hV1.ext hx
   replace hR1 := hR1.ext hx
   replace hw1 := hw1.ext hx
   replace hs1 := hs1.ext hx
   replace hV2 := hV2.ext hx
   replace hR2 := hR2.ext hx
   replace hw2 := hw2.ext hx
   replace hs2 := hs2.ext hx
   replace hW := hW.trans hx
   clear hx
   have r0 : U3.cell? ⟨g1 + 1, 0, none⟩ = some (.int .u64 R1.N) := by simp [World.cell?, hrx1]
   have r1 : U3.cell? ⟨g1 + 1, 1, none⟩ = some (.slice yS1 ys1 yt1) := by simp [World.cell?, hrx1]
   have r2 : U3.cell? ⟨g1 + 1, 2, none⟩ = some (.bool R1.fail) := by simp [World.cell?, hrx1]
   have s0 : U3.cell? ⟨g2 + 1, 0, none⟩ = some (.int .u64 R1.N) := by simp [World.cell?, hrx2]
   have s1 : U3.cell? ⟨g2 + 1, 1, none⟩ = some (.slice yS2 ys2 yt2) := by simp [World.cell?, hrx2]
   have s2 : U3.cell? ⟨g2 + 1, 2, none⟩ = some (.bool R1.fail) := by simp [World.cell?, hrx2]
   go_wp2_with fail
   refine (told_yes hR1 hR2).mono ?_
   rintro e U4 ⟨rfl, hx⟩
   clear r0 r1 r2 s0 s1 s2
   replace hI := heap_ext hI hx
   replace hB := heap_ext hB hx
   replace hA := heap_ext hA hx
   replace hbx1 := heap_ext hbx1 hx
   replace hrx1 := heap_ext hrx1 hx
   replace hbx2 := heap_ext hbx2 hx
   replace hrx2 := heap_ext hrx2 hx
   replace ha := ha.ext hx
   replace hV := hV.ext hx
   replace hV1 := hV1.ext hx
   replace hR1 := hR1.ext hx
   replace hw1 := hw1.ext hx
   replace hs1 := hs1.ext hx
   replace hV2 := hV2.ext hx
   replace hR2 := hR2.ext hx
   replace hw2 := hw2.ext hx
   replace hs2 := hs2.ext hx
   replace hW := hW.trans hx
   clear hx
   go_wp2
   go_ret
   exact ⟨rfl, hW⟩
 ·have HD := Lib.hid (show diskKind a.kind = true by rw [hdk]; simp [hk, hk2])
  clear hdk
  refine' wp_region_sure_all ⟨((some 48, [], none) :: (some 49, [0], none) :: (some 50, [], none) :: (some 51, [1, 2], none) :: (some 52, [3, 1], none) :: (some 53, [4], some (4, false)) :: (some 54, [5, 4], some (4, false)) :: (some 55, [6, 4, 4], some (4, false)) :: (some 56, [4], some (4, false)) :: (some 57, [8, 4], some (4, false)) :: (some 58, [9, 4], some (4, false)) :: (some 59, [10, 7, 4], some (4, false)) :: (some 60, [11], some (11, true)) :: (some 61, [12, 11], some (11, true)) :: (some 62, [13, 11], some (11, true)) :: (some 63, [11, 14, 4], some (4, false)) :: (some 64, [7, 15, 4], some (4, false)) :: (some 65, [4, 16], none) :: []), (0 :: 1 :: 0 :: 7 :: 15 :: 31 :: 63 :: 127 :: 31 :: 287 :: 799 :: 2047 :: 4095 :: 8191 :: 16383 :: 32767 :: 65535 :: 131071 :: []), (true :: true :: true :: true :: true :: true :: true :: true :: true :: true :: true :: true :: true :: true :: true :: true :: true :: true :: []), [], 0⟩ 18 107 ((0, 48) :: (1, 49) :: (2, 50) :: (3, 51) :: (4, 52) :: (5, 53) :: (6, 54) :: (7, 55) :: (8, 56) :: (9, 57) :: (10, 58) :: (11, 59) :: (12, 60) :: (13, 61) :: (14, 62) :: (15, 63) :: (16, 64) :: (17, 65) :: []) ((0, 48) :: (1, 49) :: (2, 50) :: (3, 51) :: (4, 52) :: (5, 53) :: (6, 54) :: (7, 55) :: (8, 56) :: (9, 57) :: (10, 58) :: (11, 59) :: (12, 60) :: (13, 61) :: (14, 62) :: (15, 63) :: (16, 64) :: (17, 65) :: []) (.det _ :: .det _ :: .det _ :: .det _ :: .det _ :: .det _ :: .det _ :: .det _ :: .det _ :: .det _ :: .det _ :: .det _ :: .det _ :: .det _ :: .det _ :: .det _ :: .det _ :: .det _ :: []) (by kernel_rfl) (by kernel_rfl) (by kernel_rfl) rfl (by kernel_rfl) (by kernel_rfl) rfl (by kernel_rfl) ?hone ?hend
  case hone =>
   intro CS frS VS hCS ha hV
   have qs3 := slot_val (t := 3) ha rfl
   simp only [List.getElem_toArray, List.getElem_cons_succ, List.getElem_cons_zero] at qs3
   have qs5 := slot_val (t := 5) ha rfl
   simp only [List.getElem_toArray, List.getElem_cons_succ, List.getElem_cons_zero] at qs5
   have qs8 := slot_val (t := 8) ha rfl
   simp only [List.getElem_toArray, List.getElem_cons_succ, List.getElem_cons_zero] at qs8
   have HCS := Lib.hid hCS
   have HVS := Lib.hid hV
   clear ha hCS hV
   refine sure_det (js := []) (ts := [3]) (gd := none) (place_at HVS.out (k := 0) rfl) (by rw [HCS.out]; kernel_rfl) ?_ ?_
   ·intro wx hx ρ hρ hs hf; have hρc := hρ.const; have hρf := hρ.func
    obtain ⟨fx3, -⟩ := hf; rw [qs3] at fx3
    clear hs
    clear HCS HVS qs3 qs5 qs8
    refine run_plain ?_
    obtain ⟨c0, c1, c2, c3, c4, c5, c6⟩ := hX wx hx.drawn
    unfold runs
    go_simp
    exact detK.mk
   refine sure_det (js := [(0, 48)]) (ts := []) (gd := none) (place_at HVS.out (k := 1) rfl) (by rw [HCS.out]; kernel_rfl) ?_ ?_
   ·intro wx hx ρ hρ hs hf; have hρc := hρ.const; have hρf := hρ.func; obtain ⟨sn0, -⟩ := hs; rw [place_at HVS.out (k := 0) rfl] at sn0; replace sn0 : ρ (.tmp 48) = _ := sn0
    clear hf
    clear HCS HVS qs3 qs5 qs8
    refine run_plain ?_
    refine op_call rfl hρ Try.call35 (map_one sn0) ?_
    first | ((with_reducible refine Calls.mono (adisk_any _ _) ?_); rintro e w' ⟨rfl, rfl⟩; refine ⟨_, rfl, ?_⟩; rw [HD.out]; exact detK.mk) | ((with_reducible refine Calls.mono (accright_any T C A q c R A0 A1 n0 c0 n1 c1 l0 l1 _ (HP.out.row0.ext hx.drawn) (HP.out.row1.ext hx.drawn)) ?_); rintro e w' ⟨rfl, hx5⟩; refine ⟨_, rfl, ?_⟩; rw [HRT.out]; exact detK.ext hx5)
   refine sure_det (js := []) (ts := [8]) (gd := none) (place_at HVS.out (k := 2) rfl) (by rw [HCS.out]; kernel_rfl) ?_ ?_
   ·intro wx hx ρ hρ hs hf; have hρc := hρ.const; have hρf := hρ.func
    obtain ⟨fx8, -⟩ := hf; rw [qs8] at fx8
    clear hs
    clear HCS HVS qs3 qs5 qs8
    refine run_plain ?_
    refine op_move rfl fx8 ?_
    exact detK.mk
   refine sure_det (js := [(1, 49), (2, 50)]) (ts := []) (gd := none) (place_at HVS.out (k := 3) rfl) (by rw [HCS.out]; kernel_rfl) ?_ ?_
   ·intro wx hx ρ hρ hs hf; have hρc := hρ.const; have hρf := hρ.func; obtain ⟨sn1, sn2, -⟩ := hs; rw [place_at HVS.out (k := 1) rfl] at sn1; replace sn1 : ρ (.tmp 49) = _ := sn1; rw [place_at HVS.out (k := 2) rfl] at sn2; replace sn2 : ρ (.tmp 50) = _ := sn2
    clear hf
    clear HCS HVS qs3 qs5 qs8
    refine run_plain ?_
    unfold runs
    go_simp
    exact detK.mk
   refine sure_det (js := [(3, 51)]) (ts := []) (gd := none) (place_at HVS.out (k := 4) rfl) (by rw [HCS.out]; kernel_rfl) ?_ ?_
   ·intro wx hx ρ hρ hs hf; have hρc := hρ.const; have hρf := hρ.func; obtain ⟨sn3, -⟩ := hs; rw [place_at HVS.out (k := 3) rfl] at sn3; replace sn3 : ρ (.tmp 51) = _ := sn3
    clear hf
    clear HCS HVS qs3 qs5 qs8
    refine run_plain ?_
    refine op_move rfl sn3 ?_
    exact detK.mk
   refine sure_det (js := [(4, 52)]) (ts := [5]) (gd := (some (52, false))) (place_at HVS.out (k := 5) rfl) (by rw [HCS.out]; kernel_rfl) ?_ ?_
   ·intro wx hx ρ hρ hs hf; have hρc := hρ.const; have hρf := hρ.func; obtain ⟨sn4, -⟩ := hs
    obtain ⟨fx5, -⟩ := hf; rw [qs5] at fx5; rw [place_at HVS.out (k := 4) rfl] at sn4; replace sn4 : ρ (.tmp 52) = _ := sn4
    clear HCS HVS qs3 qs5 qs8
    first
     | (refine run_passed sn4 ?_; exact detK.mk)
     | (refine run_undef sn4 ?_; exact detK.mk)
     | (refine run_guarded sn4 ?_; unfold runs; go_simp; exact detK.mk)
   refine sure_det (js := [(5, 53), (4, 52)]) (ts := []) (gd := (some (52, false))) (place_at HVS.out (k := 6) rfl) (by rw [HCS.out]; kernel_rfl) ?_ ?_
   ·intro wx hx ρ hρ hs hf; have hρc := hρ.const; have hρf := hρ.func; obtain ⟨sn5, sn4, -⟩ := hs; rw [place_at HVS.out (k := 5) rfl] at sn5; replace sn5 : ρ (.tmp 53) = _ := sn5; rw [place_at HVS.out (k := 4) rfl] at sn4; replace sn4 : ρ (.tmp 52) = _ := sn4
    clear hf
    clear HCS HVS qs3 qs5 qs8
    first
     | (refine run_passed sn4 ?_; exact detK.mk)
     | (refine run_undef sn4 ?_; exact detK.mk)
     | (refine run_guarded sn4 ?_; obtain ⟨c0, c1, c2, c3, c4, c5, c6⟩ := hX wx hx.drawn; unfold runs; go_simp; exact detK.mk)
   refine sure_det (js := [(6, 54), (4, 52)]) (ts := []) (gd := (some (52, false))) (place_at HVS.out (k := 7) rfl) (by rw [HCS.out]; kernel_rfl) ?_ ?_
   ·intro wx hx ρ hρ hs hf; have hρc := hρ.const; have hρf := hρ.func; obtain ⟨sn6, sn4, -⟩ := hs; rw [place_at HVS.out (k := 6) rfl] at sn6; replace sn6 : ρ (.tmp 54) = _ := sn6; rw [place_at HVS.out (k := 4) rfl] at sn4; replace sn4 : ρ (.tmp 52) = _ := sn4
    clear hf
    clear HCS HVS qs3 qs5 qs8
    first
     | (refine run_passed sn4 ?_; exact detK.mk)
     | (refine run_undef sn4 ?_; exact detK.mk)
     | (refine run_guarded sn4 ?_; refine op_call rfl hρ Try.call36 (map_one sn6) ?_; (first | ((with_reducible refine Calls.mono (adisk_any _ _) ?_); rintro e w' ⟨rfl, rfl⟩; refine ⟨_, rfl, ?_⟩; rw [HD.out]; exact detK.mk) | ((with_reducible refine Calls.mono (accright_any T C A q c R A0 A1 n0 c0 n1 c1 l0 l1 _ (HP.out.row0.ext hx.drawn) (HP.out.row1.ext hx.drawn)) ?_); rintro e w' ⟨rfl, hx5⟩; refine ⟨_, rfl, ?_⟩; rw [HRT.out]; exact detK.ext hx5)))
   refine sure_det (js := [(4, 52)]) (ts := [5]) (gd := (some (52, false))) (place_at HVS.out (k := 8) rfl) (by rw [HCS.out]; kernel_rfl) ?_ ?_
   ·intro wx hx ρ hρ hs hf; have hρc := hρ.const; have hρf := hρ.func; obtain ⟨sn4, -⟩ := hs
    obtain ⟨fx5, -⟩ := hf; rw [qs5] at fx5; rw [place_at HVS.out (k := 4) rfl] at sn4; replace sn4 : ρ (.tmp 52) = _ := sn4
    clear HCS HVS qs3 qs5 qs8
    first
     | (refine run_passed sn4 ?_; exact detK.mk)
     | (refine run_undef sn4 ?_; exact detK.mk)
     | (refine run_guarded sn4 ?_; unfold runs; go_simp; exact detK.mk)
   refine sure_det (js := [(8, 56), (4, 52)]) (ts := []) (gd := (some (52, false))) (place_at HVS.out (k := 9) rfl) (by rw [HCS.out]; kernel_rfl) ?_ ?_
   ·intro wx hx ρ hρ hs hf; have hρc := hρ.const; have hρf := hρ.func; obtain ⟨sn8, sn4, -⟩ := hs; rw [place_at HVS.out (k := 8) rfl] at sn8; replace sn8 : ρ (.tmp 56) = _ := sn8; rw [place_at HVS.out (k := 4) rfl] at sn4; replace sn4 : ρ (.tmp 52) = _ := sn4
    clear hf
    clear HCS HVS qs3 qs5 qs8
    first
     | (refine run_passed sn4 ?_; exact detK.mk)
     | (refine run_undef sn4 ?_; exact detK.mk)
     | (refine run_guarded sn4 ?_; obtain ⟨c0, c1, c2, c3, c4, c5, c6⟩ := hX wx hx.drawn; unfold runs; go_simp; exact detK.mk)
   refine sure_det (js := [(9, 57), (4, 52)]) (ts := []) (gd := (some (52, false))) (place_at HVS.out (k := 10) rfl) (by rw [HCS.out]; kernel_rfl) ?_ ?_
   ·intro wx hx ρ hρ hs hf; have hρc := hρ.const; have hρf := hρ.func; obtain ⟨sn9, sn4, -⟩ := hs; rw [place_at HVS.out (k := 9) rfl] at sn9; replace sn9 : ρ (.tmp 57) = _ := sn9; rw [place_at HVS.out (k := 4) rfl] at sn4; replace sn4 : ρ (.tmp 52) = _ := sn4
    clear hf
    clear HCS HVS qs3 qs5 qs8
    first
     | (refine run_passed sn4 ?_; exact detK.mk)
     | (refine run_undef sn4 ?_; exact detK.mk)
     | (refine run_guarded sn4 ?_; unfold runs; go_simp; exact detK.mk)
   refine sure_det (js := [(10, 58), (4, 52)]) (ts := []) (gd := (some (52, false))) (place_at HVS.out (k := 11) rfl) (by rw [HCS.out]; kernel_rfl) ?_ ?_
   ·intro wx hx ρ hρ hs hf; have hρc := hρ.const; have hρf := hρ.func; obtain ⟨sn10, sn4, -⟩ := hs; rw [place_at HVS.out (k := 10) rfl] at sn10; replace sn10 : ρ (.tmp 58) = _ := sn10; rw [place_at HVS.out (k := 4) rfl] at sn4; replace sn4 : ρ (.tmp 52) = _ := sn4
    clear hf
    clear HCS HVS qs3 qs5 qs8
    first
     | (refine run_passed sn4 ?_; exact detK.mk)
     | (refine run_undef sn4 ?_; exact detK.mk)
     | (refine run_guarded sn4 ?_; refine op_move rfl sn10 ?_; exact detK.mk)
   refine sure_det (js := [(11, 59)]) (ts := [5]) (gd := (some (59, true))) (place_at HVS.out (k := 12) rfl) (by rw [HCS.out]; kernel_rfl) ?_ ?_
   ·intro wx hx ρ hρ hs hf; have hρc := hρ.const; have hρf := hρ.func; obtain ⟨sn11, -⟩ := hs
    obtain ⟨fx5, -⟩ := hf; rw [qs5] at fx5; rw [place_at HVS.out (k := 11) rfl] at sn11; replace sn11 : ρ (.tmp 59) = _ := sn11
    clear HCS HVS qs3 qs5 qs8
    first
     | (refine run_passed sn11 ?_; exact detK.mk)
     | (refine run_undef sn11 ?_; exact detK.mk)
     | (refine run_guarded sn11 ?_; unfold runs; go_simp; exact detK.mk)
   refine sure_det (js := [(12, 60), (11, 59)]) (ts := []) (gd := (some (59, true))) (place_at HVS.out (k := 13) rfl) (by rw [HCS.out]; kernel_rfl) ?_ ?_
   ·intro wx hx ρ hρ hs hf; have hρc := hρ.const; have hρf := hρ.func; obtain ⟨sn12, sn11, -⟩ := hs; rw [place_at HVS.out (k := 12) rfl] at sn12; replace sn12 : ρ (.tmp 60) = _ := sn12; rw [place_at HVS.out (k := 11) rfl] at sn11; replace sn11 : ρ (.tmp 59) = _ := sn11
    clear hf
    clear HCS HVS qs3 qs5 qs8
    first
     | (refine run_passed sn11 ?_; exact detK.mk)
     | (refine run_undef sn11 ?_; exact detK.mk)
     | (refine run_guarded sn11 ?_; obtain ⟨c0, c1, c2, c3, c4, c5, c6⟩ := hX wx hx.drawn; unfold runs; go_simp; exact detK.mk)
   refine sure_det (js := [(13, 61), (11, 59)]) (ts := []) (gd := (some (59, true))) (place_at HVS.out (k := 14) rfl) (by rw [HCS.out]; kernel_rfl) ?_ ?_
   ·intro wx hx ρ hρ hs hf; have hρc := hρ.const; have hρf := hρ.func; obtain ⟨sn13, sn11, -⟩ := hs; rw [place_at HVS.out (k := 13) rfl] at sn13; replace sn13 : ρ (.tmp 61) = _ := sn13; rw [place_at HVS.out (k := 11) rfl] at sn11; replace sn11 : ρ (.tmp 59) = _ := sn11
    clear hf
    clear HCS HVS qs3 qs5 qs8
    first
     | (refine run_passed sn11 ?_; exact detK.mk)
     | (refine run_undef sn11 ?_; exact detK.mk)
     | (refine run_guarded sn11 ?_; unfold runs; go_simp; exact detK.mk)
   refine sure_det (js := [(11, 59), (14, 62), (4, 52)]) (ts := []) (gd := (some (52, false))) (place_at HVS.out (k := 15) rfl) (by rw [HCS.out]; kernel_rfl) ?_ ?_
   ·intro wx hx ρ hρ hs hf; have hρc := hρ.const; have hρf := hρ.func; obtain ⟨sn11, sn14, sn4, -⟩ := hs; rw [place_at HVS.out (k := 11) rfl] at sn11; replace sn11 : ρ (.tmp 59) = _ := sn11; rw [place_at HVS.out (k := 14) rfl] at sn14; replace sn14 : ρ (.tmp 62) = _ := sn14; rw [place_at HVS.out (k := 4) rfl] at sn4; replace sn4 : ρ (.tmp 52) = _ := sn4
    clear hf
    clear HCS HVS qs3 qs5 qs8
    first
     | (refine run_passed sn4 ?_; exact detK.mk)
     | (refine run_undef sn4 ?_; exact detK.mk)
     | (refine run_guarded sn4 ?_; (first | refine op_pick_t rfl sn11 sn14 ?_ | refine op_pick_f rfl sn11 (hρ.const _) ?_); exact detK.mk)
   refine sure_det (js := [(7, 55), (15, 63), (4, 52)]) (ts := []) (gd := (some (52, false))) (place_at HVS.out (k := 16) rfl) (by rw [HCS.out]; kernel_rfl) ?_ ?_
   ·intro wx hx ρ hρ hs hf; have hρc := hρ.const; have hρf := hρ.func; obtain ⟨sn7, sn15, sn4, -⟩ := hs; rw [place_at HVS.out (k := 7) rfl] at sn7; replace sn7 : ρ (.tmp 55) = _ := sn7; rw [place_at HVS.out (k := 15) rfl] at sn15; replace sn15 : ρ (.tmp 63) = _ := sn15; rw [place_at HVS.out (k := 4) rfl] at sn4; replace sn4 : ρ (.tmp 52) = _ := sn4
    clear hf
    clear HCS HVS qs3 qs5 qs8
    first
     | (refine run_passed sn4 ?_; exact detK.mk)
     | (refine run_undef sn4 ?_; exact detK.mk)
     | (refine run_guarded sn4 ?_; unfold runs; go_simp; exact detK.mk)
   refine sure_det (js := [(4, 52), (16, 64)]) (ts := []) (gd := none) (place_at HVS.out (k := 17) rfl) (by rw [HCS.out]; kernel_rfl) ?_ ?_
   ·intro wx hx ρ hρ hs hf; have hρc := hρ.const; have hρf := hρ.func; obtain ⟨sn4, sn16, -⟩ := hs; rw [place_at HVS.out (k := 4) rfl] at sn4; replace sn4 : ρ (.tmp 52) = _ := sn4; rw [place_at HVS.out (k := 16) rfl] at sn16; replace sn16 : ρ (.tmp 64) = _ := sn16
    clear hf
    clear HCS HVS qs3 qs5 qs8
    refine run_plain ?_
    first | refine op_pick_t rfl sn4 (hρ.const _) ?_ | refine op_pick_f rfl sn4 sn16 ?_
    exact detK.mk
   exact trivial
  case hend =>
   intro xs wx hx hg
   have gk0 : xs 0 = _ := goods_get hg (i := 0) (j := 0) (d := 48) rfl
   have gk1 : xs 1 = _ := goods_get hg (i := 1) (j := 1) (d := 49) rfl
   have gk2 : xs 2 = _ := goods_get hg (i := 2) (j := 2) (d := 50) rfl
   have gk3 : xs 3 = _ := goods_get hg (i := 3) (j := 3) (d := 51) rfl
   have gk4 : xs 4 = _ := goods_get hg (i := 4) (j := 4) (d := 52) rfl
   have gk5 : xs 5 = _ := goods_get hg (i := 5) (j := 5) (d := 53) rfl
   have gk6 : xs 6 = _ := goods_get hg (i := 6) (j := 6) (d := 54) rfl
   have gk7 : xs 7 = _ := goods_get hg (i := 7) (j := 7) (d := 55) rfl
   have gk8 : xs 8 = _ := goods_get hg (i := 8) (j := 8) (d := 56) rfl
   have gk9 : xs 9 = _ := goods_get hg (i := 9) (j := 9) (d := 57) rfl
   have gk10 : xs 10 = _ := goods_get hg (i := 10) (j := 10) (d := 58) rfl
   have gk11 : xs 11 = _ := goods_get hg (i := 11) (j := 11) (d := 59) rfl
   have gk12 : xs 12 = _ := goods_get hg (i := 12) (j := 12) (d := 60) rfl
   have gk13 : xs 13 = _ := goods_get hg (i := 13) (j := 13) (d := 61) rfl
   have gk14 : xs 14 = _ := goods_get hg (i := 14) (j := 14) (d := 62) rfl
   have gk15 : xs 15 = _ := goods_get hg (i := 15) (j := 15) (d := 63) rfl
   have gk16 : xs 16 = _ := goods_get hg (i := 16) (j := 16) (d := 64) rfl
   have gk17 : xs 17 = _ := goods_get hg (i := 17) (j := 17) (d := 65) rfl
   clear hg
   simp only [putAll, gk0, gk1, gk2, gk3, gk4, gk5, gk6, gk7, gk8, gk9, gk10, gk11, gk12, gk13, gk14, gk15, gk16, gk17]
   clear gk0 gk1 gk2 gk3 gk4 gk5 gk6 gk7 gk8 gk9 gk10 gk11 gk12 gk13 gk14 gk15 gk16 gk17
   clear xs
   simp only [Act.put, List.setIfInBounds_toArray, List.set_cons_zero, List.set_cons_succ]
   clear hX
   go_upto_region 11 with (fail)
   have hP := HP.out
   have hx_ := hx.drawn
   replace hI := heap_ext hI hx_
   replace hB := heap_ext hB hx_
   replace hA := heap_ext hA hx_
   replace ha := ha.ext hx_
   replace hP := hP.ext hx_
   replace hW := hW.trans hx_
   clear hx_ hx
   have e0 : wx.cell? ⟨gw, 0, none⟩ = some (.int .i64 T) := by simp [World.cell?, hB]
   have e1 : wx.cell? ⟨gw, 1, none⟩ = some (.int .i64 C) := by simp [World.cell?, hB]
   have e2 : wx.cell? ⟨gw, 2, none⟩ = some (.slice A q c) := by simp [World.cell?, hB]
   have e3 : wx.cell? ⟨gw, 3, none⟩ = some (.int .u64 R) := by simp [World.cell?, hB]
   have e4 : wx.cell? ⟨gw, 4, none⟩ = some (.slice A0 n0 c0) := by simp [World.cell?, hB]
   have e5 : wx.cell? ⟨gw, 5, none⟩ = some (.slice A1 n1 c1) := by simp [World.cell?, hB]
   cases rt
   ·go_wp2
    go_ret
    exact ⟨rfl, hW⟩
   rcases (Decidable.em (0 ≤ me)).symm with hm0 | hm0
   ·have hm0' : me < 0 := by omega
    go_wp2
    go_ret
    exact ⟨rfl, hW⟩
   have hm0' : ¬ me < 0 := by omega
   rcases (Decidable.em (me < T)).symm with hm1 | hm1
   ·have hm1' : T ≤ me := by omega
    go_wp2
    go_ret
    exact ⟨rfl, hW⟩
   have hm1' : ¬ T ≤ me := by omega
   obtain ⟨rfl, hnT, hmay, hqq, hF, hV⟩ := hP.small HRT.out f3 hq6
   have HQ := Lib.hid hqq
   have HN := Lib.hid hnT
   clear hqq hnT hmay HP HRT f1 f2 f3 hP
   generalize hX0 : (⟨T, C, ws, R, n1, l0.map St.key, l1.map St.key⟩ : WldK) = X0 at *
   have HL : X0.ws.length = ws.length := by rw [← hX0]
   have HLL := Lib.hid HL
   clear hX0 HL
   have f0 : wx.cell? ⟨ga, 0, none⟩ = some (.int .i64 a.kind) := by simp [World.cell?, hA]
   have f1 : wx.cell? ⟨ga, 1, none⟩ = some (.int .i64 a.cell) := by simp [World.cell?, hA]
   have f2 : wx.cell? ⟨ga, 2, none⟩ = some (.int .u64 a.a) := by simp [World.cell?, hA]
   have f3 : wx.cell? ⟨ga, 3, none⟩ = some (.int .u64 a.b) := by simp [World.cell?, hA]
   have f4 : wx.cell? ⟨ga, 4, none⟩ = some (.slice D m cd) := by simp [World.cell?, hA]
   have f5 : wx.cell? ⟨ga, 5, none⟩ = some (.slice E p ce) := by simp [World.cell?, hA]
   clear e0 e1 e2 e3 e4 e5
   have e0 : wx.cell? ⟨gw, 0, none⟩ = some (.int .i64 T) := by simp [World.cell?, hB]
   have e1 : wx.cell? ⟨gw, 1, none⟩ = some (.int .i64 C) := by simp [World.cell?, hB]
   have e2 : wx.cell? ⟨gw, 2, none⟩ = some (.slice A q c) := by simp [World.cell?, hB]
   have e3 : wx.cell? ⟨gw, 3, none⟩ = some (.int .u64 R) := by simp [World.cell?, hB]
   have e4 : wx.cell? ⟨gw, 4, none⟩ = some (.slice A0 n1 c0) := by simp [World.cell?, hB]
   have e5 : wx.cell? ⟨gw, 5, none⟩ = some (.slice A1 n1 c1) := by simp [World.cell?, hB]
   go_wp2_with fail
   refine (do_all _ _ X0 me a fail _ hV ha (hF.le_ (by unfold useM; split <;> omega))).mono ?_
   rintro e u1 ⟨v1, r1, rfl, hV1, hR1, hu_⟩
   generalize hX1 : doK X0 me a fail = X1 at hV1
   generalize hY1 : doR X0 a fail = R1 at hR1
   have hX1 := Lib.hid hX1
   have hY1 := Lib.hid hY1
   have hV1_ := hV1
   have hR1_ := hR1
   obtain ⟨xA1, xq1, xc1, xB1, xC1, xb1, xd1, rfl, hw1, hd1⟩ := hV1_
   obtain ⟨yS1, ys1, yt1, rfl, hs1⟩ := hR1_
   clear e0 e1 e2 e3 e4 e5 f0 f1 f2 f3 f4 f5
   replace hI := heap_ext hI hu_
   replace hB := heap_ext hB hu_
   replace hA := heap_ext hA hu_
   replace ha := ha.ext hu_
   replace hV := hV.ext hu_
   replace hW := hW.trans hu_
   clear hu_
   go_upto_region 14 with (fail)
   obtain ⟨hx_, hbx1, hrx1⟩ := two_boxes7 u1 (.cells #[.int .i64 X1.T, .int .i64 X1.C, .slice xA1 xq1 xc1, .int .u64 X1.R, .slice xB1 X1.n xb1, .slice xC1 X1.n xd1] 32) (.cells #[.int .u64 R1.N, .slice yS1 ys1 yt1, .bool R1.fail] 51)
   generalize (u1.alloc (.cells #[.int .i64 X1.T, .int .i64 X1.C, .slice xA1 xq1 xc1, .int .u64 X1.R, .slice xB1 X1.n xb1, .slice xC1 X1.n xd1] 32)).alloc (.cells #[.int .u64 R1.N, .slice yS1 ys1 yt1, .bool R1.fail] 51) = U1 at *
   generalize u1.heap.size = g1 at *
   replace hI := heap_ext hI hx_
   replace hB := heap_ext hB hx_
   replace hA := heap_ext hA hx_
   replace ha := ha.ext hx_
   replace hV := hV.ext hx_
   replace hV1 := hV1.ext hx_
   replace hR1 := hR1.ext hx_
   replace hw1 := hw1.ext hx_
   replace hs1 := hs1.ext hx_
   replace hW := hW.trans hx_
   clear hx_
   have f0 : U1.cell? ⟨ga, 0, none⟩ = some (.int .i64 a.kind) := by simp [World.cell?, hA]
   have f1 : U1.cell? ⟨ga, 1, none⟩ = some (.int .i64 a.cell) := by simp [World.cell?, hA]
   have f2 : U1.cell? ⟨ga, 2, none⟩ = some (.int .u64 a.a) := by simp [World.cell?, hA]
   have f3 : U1.cell? ⟨ga, 3, none⟩ = some (.int .u64 a.b) := by simp [World.cell?, hA]
   have f4 : U1.cell? ⟨ga, 4, none⟩ = some (.slice D m cd) := by simp [World.cell?, hA]
   have f5 : U1.cell? ⟨ga, 5, none⟩ = some (.slice E p ce) := by simp [World.cell?, hA]
   have e0 : U1.cell? ⟨gw, 0, none⟩ = some (.int .i64 T) := by simp [World.cell?, hB]
   have e1 : U1.cell? ⟨gw, 1, none⟩ = some (.int .i64 C) := by simp [World.cell?, hB]
   have e2 : U1.cell? ⟨gw, 2, none⟩ = some (.slice A q c) := by simp [World.cell?, hB]
   have e3 : U1.cell? ⟨gw, 3, none⟩ = some (.int .u64 R) := by simp [World.cell?, hB]
   have e4 : U1.cell? ⟨gw, 4, none⟩ = some (.slice A0 n1 c0) := by simp [World.cell?, hB]
   have e5 : U1.cell? ⟨gw, 5, none⟩ = some (.slice A1 n1 c1) := by simp [World.cell?, hB]
   go_wp2_with fail
   refine (rdo_all _ _ X0 me a fail _ hV ha (hF.le_ (by unfold useM; split <;> omega))).mono ?_
   rintro e u2 ⟨v2, r2, rfl, hV2, hR2, hu_⟩
   rw [hX1.out] at hV2
   rw [hY1.out] at hR2
   have hV2_ := hV2
   have hR2_ := hR2
   obtain ⟨xA2, xq2, xc2, xB2, xC2, xb2, xd2, rfl, hw2, hd2⟩ := hV2_
   obtain ⟨yS2, ys2, yt2, rfl, hs2⟩ := hR2_
   clear f0 f1 f2 f3 f4 f5 e0 e1 e2 e3 e4 e5
   replace hI := heap_ext hI hu_
   replace hB := heap_ext hB hu_
   replace hA := heap_ext hA hu_
   replace hbx1 := heap_ext hbx1 hu_
   replace hrx1 := heap_ext hrx1 hu_
   replace ha := ha.ext hu_
   replace hV := hV.ext hu_
   replace hV1 := hV1.ext hu_
   replace hR1 := hR1.ext hu_
   replace hw1 := hw1.ext hu_
   replace hs1 := hs1.ext hu_
   replace hW := hW.trans hu_
   clear hu_
   go_upto_region 15 with (fail)
   obtain ⟨hx_, hbx2, hrx2⟩ := two_boxes7 u2 (.cells #[.int .i64 X1.T, .int .i64 X1.C, .slice xA2 xq2 xc2, .int .u64 X1.R, .slice xB2 X1.n xb2, .slice xC2 X1.n xd2] 32) (.cells #[.int .u64 R1.N, .slice yS2 ys2 yt2, .bool R1.fail] 51)
   generalize (u2.alloc (.cells #[.int .i64 X1.T, .int .i64 X1.C, .slice xA2 xq2 xc2, .int .u64 X1.R, .slice xB2 X1.n xb2, .slice xC2 X1.n xd2] 32)).alloc (.cells #[.int .u64 R1.N, .slice yS2 ys2 yt2, .bool R1.fail] 51) = U2 at *
   generalize u2.heap.size = g2 at *
   replace hI := heap_ext hI hx_
   replace hB := heap_ext hB hx_
   replace hA := heap_ext hA hx_
   replace hbx1 := heap_ext hbx1 hx_
   replace hrx1 := heap_ext hrx1 hx_
   replace ha := ha.ext hx_
   replace hV := hV.ext hx_
   replace hV1 := hV1.ext hx_
   replace hR1 := hR1.ext hx_
   replace hw1 := hw1.ext hx_
   replace hs1 := hs1.ext hx_
   replace hV2 := hV2.ext hx_
   replace hR2 := hR2.ext hx_
   replace hw2 := hw2.ext hx_
   replace hs2 := hs2.ext hx_
   replace hW := hW.trans hx_
   clear hx_
   have hn : X1.ws.length ≤ 1000000 := by
    have h1 := doK_len X0 me a fail
    rw [hX1.out, HLL.out, HWL.out] at h1
    omega
   have x0 : U2.cell? ⟨g1, 0, none⟩ = some (.int .i64 X1.T) := by simp [World.cell?, hbx1]
   have x1 : U2.cell? ⟨g1, 1, none⟩ = some (.int .i64 X1.C) := by simp [World.cell?, hbx1]
   have x2 : U2.cell? ⟨g1, 2, none⟩ = some (.slice xA1 xq1 xc1) := by simp [World.cell?, hbx1]
   have x3 : U2.cell? ⟨g1, 3, none⟩ = some (.int .u64 X1.R) := by simp [World.cell?, hbx1]
   have x4 : U2.cell? ⟨g1, 4, none⟩ = some (.slice xB1 X1.n xb1) := by simp [World.cell?, hbx1]
   have x5 : U2.cell? ⟨g1, 5, none⟩ = some (.slice xC1 X1.n xd1) := by simp [World.cell?, hbx1]
   have y0 : U2.cell? ⟨g2, 0, none⟩ = some (.int .i64 X1.T) := by simp [World.cell?, hbx2]
   have y1 : U2.cell? ⟨g2, 1, none⟩ = some (.int .i64 X1.C) := by simp [World.cell?, hbx2]
   have y2 : U2.cell? ⟨g2, 2, none⟩ = some (.slice xA2 xq2 xc2) := by simp [World.cell?, hbx2]
   have y3 : U2.cell? ⟨g2, 3, none⟩ = some (.int .u64 X1.R) := by simp [World.cell?, hbx2]
   have y4 : U2.cell? ⟨g2, 4, none⟩ = some (.slice xB2 X1.n xb2) := by simp [World.cell?, hbx2]
   have y5 : U2.cell? ⟨g2, 5, none⟩ = some (.slice xC2 X1.n xd2) := by simp [World.cell?, hbx2]
   have r0 : U2.cell? ⟨g1 + 1, 0, none⟩ = some (.int .u64 R1.N) := by simp [World.cell?, hrx1]
   have r1 : U2.cell? ⟨g1 + 1, 1, none⟩ = some (.slice yS1 ys1 yt1) := by simp [World.cell?, hrx1]
   have r2 : U2.cell? ⟨g1 + 1, 2, none⟩ = some (.bool R1.fail) := by simp [World.cell?, hrx1]
   have s0 : U2.cell? ⟨g2 + 1, 0, none⟩ = some (.int .u64 R1.N) := by simp [World.cell?, hrx2]
   have s1 : U2.cell? ⟨g2 + 1, 1, none⟩ = some (.slice yS2 ys2 yt2) := by simp [World.cell?, hrx2]
   have s2 : U2.cell? ⟨g2 + 1, 2, none⟩ = some (.bool R1.fail) := by simp [World.cell?, hrx2]
   go_wp2_with fail
   refine (rasame_yes hV1 hV2 hn).mono ?_
   rintro e U3 ⟨rfl, hx⟩
   clear x0 x1 x2 x3 x4 x5 y0 y1 y2 y3 y4 y5 r0 r1 r2 s0 s1 s2
   replace hI := heap_ext hI hx
   replace hB := heap_ext hB hx
   replace hA := heap_ext hA hx
   replace hbx1 := heap_ext hbx1 hx
   replace hrx1 := heap_ext hrx1 hx
   replace hbx2 := heap_ext hbx2 hx
   replace hrx2 := heap_ext hrx2 hx
   replace ha := ha.ext hx
   replace hV := hV.ext hx
   replace hV1 := hV1.ext hx
   replace hR1 := hR1.ext hx
   replace hw1 := hw1.ext hx
   replace hs1 := hs1.ext hx
   replace hV2 := hV2.ext hx
   replace hR2 := hR2.ext hx
   replace hw2 := hw2.ext hx
   replace hs2 := hs2.ext hx
   replace hW := hW.trans hx
   clear hx
   have r0 : U3.cell? ⟨g1 + 1, 0, none⟩ = some (.int .u64 R1.N) := by simp [World.cell?, hrx1]
   have r1 : U3.cell? ⟨g1 + 1, 1, none⟩ = some (.slice yS1 ys1 yt1) := by simp [World.cell?, hrx1]
   have r2 : U3.cell? ⟨g1 + 1, 2, none⟩ = some (.bool R1.fail) := by simp [World.cell?, hrx1]
   have s0 : U3.cell? ⟨g2 + 1, 0, none⟩ = some (.int .u64 R1.N) := by simp [World.cell?, hrx2]
   have s1 : U3.cell? ⟨g2 + 1, 1, none⟩ = some (.slice yS2 ys2 yt2) := by simp [World.cell?, hrx2]
   have s2 : U3.cell? ⟨g2 + 1, 2, none⟩ = some (.bool R1.fail) := by simp [World.cell?, hrx2]
   go_wp2_with fail
   refine (told_yes hR1 hR2).mono ?_
   rintro e U4 ⟨rfl, hx⟩
   clear r0 r1 r2 s0 s1 s2
   replace hI := heap_ext hI hx
   replace hB := heap_ext hB hx
   replace hA := heap_ext hA hx
   replace hbx1 := heap_ext hbx1 hx
   replace hrx1 := heap_ext hrx1 hx
   replace hbx2 := heap_ext hbx2 hx
   replace hrx2 := heap_ext hrx2 hx
   replace ha := ha.ext hx
   replace hV := hV.ext hx
   replace hV1 := hV1.ext hx
   replace hR1 := hR1.ext hx
   replace hw1 := hw1.ext hx
   replace hs1 := hs1.ext hx
   replace hV2 := hV2.ext hx
   replace hR2 := hR2.ext hx
   replace hw2 := hw2.ext hx
   replace hs2 := hs2.ext hx
   replace hW := hW.trans hx
   clear hx
   go_wp2
   go_ret
   exact ⟨rfl, hW⟩
 ·have hk2' : ¬ a.kind ≤ 12 := by omega
  have HD := Lib.hid (show diskKind a.kind = false by rw [hdk]; simp [hk2'])
  clear hdk
  refine' wp_region_sure_all ⟨((some 48, [], none) :: (some 49, [0], none) :: (some 50, [], none) :: (some 51, [1, 2], none) :: (some 52, [3, 1], none) :: (some 53, [4], some (4, false)) :: (some 54, [5, 4], some (4, false)) :: (some 55, [6, 4, 4], some (4, false)) :: (some 56, [4], some (4, false)) :: (some 57, [8, 4], some (4, false)) :: (some 58, [9, 4], some (4, false)) :: (some 59, [10, 7, 4], some (4, false)) :: (some 60, [11], some (11, true)) :: (some 61, [12, 11], some (11, true)) :: (some 62, [13, 11], some (11, true)) :: (some 63, [11, 14, 4], some (4, false)) :: (some 64, [7, 15, 4], some (4, false)) :: (some 65, [4, 16], none) :: []), (0 :: 1 :: 0 :: 7 :: 15 :: 31 :: 63 :: 127 :: 31 :: 287 :: 799 :: 2047 :: 4095 :: 8191 :: 16383 :: 32767 :: 65535 :: 131071 :: []), (true :: true :: true :: true :: true :: true :: true :: true :: true :: true :: true :: true :: true :: true :: true :: true :: true :: true :: []), [], 0⟩ 18 107 ((0, 48) :: (1, 49) :: (2, 50) :: (3, 51) :: (4, 52) :: (5, 53) :: (6, 54) :: (7, 55) :: (8, 56) :: (9, 57) :: (10, 58) :: (11, 59) :: (12, 60) :: (13, 61) :: (14, 62) :: (15, 63) :: (16, 64) :: (17, 65) :: []) ((0, 48) :: (1, 49) :: (2, 50) :: (3, 51) :: (4, 52) :: (5, 53) :: (6, 54) :: (7, 55) :: (8, 56) :: (9, 57) :: (10, 58) :: (11, 59) :: (12, 60) :: (13, 61) :: (14, 62) :: (15, 63) :: (16, 64) :: (17, 65) :: []) (.det _ :: .det _ :: .det _ :: .det _ :: .det _ :: .det _ :: .det _ :: .det _ :: .det _ :: .det _ :: .det _ :: .det _ :: .det _ :: .det _ :: .det _ :: .det _ :: .det _ :: .det _ :: []) (by kernel_rfl) (by kernel_rfl) (by kernel_rfl) rfl (by kernel_rfl) (by kernel_rfl) rfl (by kernel_rfl) ?hone ?hend
  case hone =>
   intro CS frS VS hCS ha hV
   have qs3 := slot_val (t := 3) ha rfl
   simp only [List.getElem_toArray, List.getElem_cons_succ, List.getElem_cons_zero] at qs3
   have qs5 := slot_val (t := 5) ha rfl
   simp only [List.getElem_toArray, List.getElem_cons_succ, List.getElem_cons_zero] at qs5
   have qs8 := slot_val (t := 8) ha rfl
   simp only [List.getElem_toArray, List.getElem_cons_succ, List.getElem_cons_zero] at qs8
   have HCS := Lib.hid hCS
   have HVS := Lib.hid hV
   clear ha hCS hV
   refine sure_det (js := []) (ts := [3]) (gd := none) (place_at HVS.out (k := 0) rfl) (by rw [HCS.out]; kernel_rfl) ?_ ?_
   ·intro wx hx ρ hρ hs hf; have hρc := hρ.const; have hρf := hρ.func
    obtain ⟨fx3, -⟩ := hf; rw [qs3] at fx3
    clear hs
    clear HCS HVS qs3 qs5 qs8
    refine run_plain ?_
    obtain ⟨c0, c1, c2, c3, c4, c5, c6⟩ := hX wx hx.drawn
    unfold runs
    go_simp
    exact detK.mk
   refine sure_det (js := [(0, 48)]) (ts := []) (gd := none) (place_at HVS.out (k := 1) rfl) (by rw [HCS.out]; kernel_rfl) ?_ ?_
   ·intro wx hx ρ hρ hs hf; have hρc := hρ.const; have hρf := hρ.func; obtain ⟨sn0, -⟩ := hs; rw [place_at HVS.out (k := 0) rfl] at sn0; replace sn0 : ρ (.tmp 48) = _ := sn0
    clear hf
    clear HCS HVS qs3 qs5 qs8
    refine run_plain ?_
    refine op_call rfl hρ Try.call35 (map_one sn0) ?_
    first | ((with_reducible refine Calls.mono (adisk_any _ _) ?_); rintro e w' ⟨rfl, rfl⟩; refine ⟨_, rfl, ?_⟩; rw [HD.out]; exact detK.mk) | ((with_reducible refine Calls.mono (accright_any T C A q c R A0 A1 n0 c0 n1 c1 l0 l1 _ (HP.out.row0.ext hx.drawn) (HP.out.row1.ext hx.drawn)) ?_); rintro e w' ⟨rfl, hx5⟩; refine ⟨_, rfl, ?_⟩; rw [HRT.out]; exact detK.ext hx5)
   refine sure_det (js := []) (ts := [8]) (gd := none) (place_at HVS.out (k := 2) rfl) (by rw [HCS.out]; kernel_rfl) ?_ ?_
   ·intro wx hx ρ hρ hs hf; have hρc := hρ.const; have hρf := hρ.func
    obtain ⟨fx8, -⟩ := hf; rw [qs8] at fx8
    clear hs
    clear HCS HVS qs3 qs5 qs8
    refine run_plain ?_
    refine op_move rfl fx8 ?_
    exact detK.mk
   refine sure_det (js := [(1, 49), (2, 50)]) (ts := []) (gd := none) (place_at HVS.out (k := 3) rfl) (by rw [HCS.out]; kernel_rfl) ?_ ?_
   ·intro wx hx ρ hρ hs hf; have hρc := hρ.const; have hρf := hρ.func; obtain ⟨sn1, sn2, -⟩ := hs; rw [place_at HVS.out (k := 1) rfl] at sn1; replace sn1 : ρ (.tmp 49) = _ := sn1; rw [place_at HVS.out (k := 2) rfl] at sn2; replace sn2 : ρ (.tmp 50) = _ := sn2
    clear hf
    clear HCS HVS qs3 qs5 qs8
    refine run_plain ?_
    unfold runs
    go_simp
    exact detK.mk
   refine sure_det (js := [(3, 51)]) (ts := []) (gd := none) (place_at HVS.out (k := 4) rfl) (by rw [HCS.out]; kernel_rfl) ?_ ?_
   ·intro wx hx ρ hρ hs hf; have hρc := hρ.const; have hρf := hρ.func; obtain ⟨sn3, -⟩ := hs; rw [place_at HVS.out (k := 3) rfl] at sn3; replace sn3 : ρ (.tmp 51) = _ := sn3
    clear hf
    clear HCS HVS qs3 qs5 qs8
    refine run_plain ?_
    refine op_move rfl sn3 ?_
    exact detK.mk
   refine sure_det (js := [(4, 52)]) (ts := [5]) (gd := (some (52, false))) (place_at HVS.out (k := 5) rfl) (by rw [HCS.out]; kernel_rfl) ?_ ?_
   ·intro wx hx ρ hρ hs hf; have hρc := hρ.const; have hρf := hρ.func; obtain ⟨sn4, -⟩ := hs
    obtain ⟨fx5, -⟩ := hf; rw [qs5] at fx5; rw [place_at HVS.out (k := 4) rfl] at sn4; replace sn4 : ρ (.tmp 52) = _ := sn4
    clear HCS HVS qs3 qs5 qs8
    first
     | (refine run_passed sn4 ?_; exact detK.mk)
     | (refine run_undef sn4 ?_; exact detK.mk)
     | (refine run_guarded sn4 ?_; unfold runs; go_simp; exact detK.mk)
   refine sure_det (js := [(5, 53), (4, 52)]) (ts := []) (gd := (some (52, false))) (place_at HVS.out (k := 6) rfl) (by rw [HCS.out]; kernel_rfl) ?_ ?_
   ·intro wx hx ρ hρ hs hf; have hρc := hρ.const; have hρf := hρ.func; obtain ⟨sn5, sn4, -⟩ := hs; rw [place_at HVS.out (k := 5) rfl] at sn5; replace sn5 : ρ (.tmp 53) = _ := sn5; rw [place_at HVS.out (k := 4) rfl] at sn4; replace sn4 : ρ (.tmp 52) = _ := sn4
    clear hf
    clear HCS HVS qs3 qs5 qs8
    first
     | (refine run_passed sn4 ?_; exact detK.mk)
     | (refine run_undef sn4 ?_; exact detK.mk)
     | (refine run_guarded sn4 ?_; obtain ⟨c0, c1, c2, c3, c4, c5, c6⟩ := hX wx hx.drawn; unfold runs; go_simp; exact detK.mk)
   refine sure_det (js := [(6, 54), (4, 52)]) (ts := []) (gd := (some (52, false))) (place_at HVS.out (k := 7) rfl) (by rw [HCS.out]; kernel_rfl) ?_ ?_
   ·intro wx hx ρ hρ hs hf; have hρc := hρ.const; have hρf := hρ.func; obtain ⟨sn6, sn4, -⟩ := hs; rw [place_at HVS.out (k := 6) rfl] at sn6; replace sn6 : ρ (.tmp 54) = _ := sn6; rw [place_at HVS.out (k := 4) rfl] at sn4; replace sn4 : ρ (.tmp 52) = _ := sn4
    clear hf
    clear HCS HVS qs3 qs5 qs8
    first
     | (refine run_passed sn4 ?_; exact detK.mk)
     | (refine run_undef sn4 ?_; exact detK.mk)
     | (refine run_guarded sn4 ?_; refine op_call rfl hρ Try.call36 (map_one sn6) ?_; (first | ((with_reducible refine Calls.mono (adisk_any _ _) ?_); rintro e w' ⟨rfl, rfl⟩; refine ⟨_, rfl, ?_⟩; rw [HD.out]; exact detK.mk) | ((with_reducible refine Calls.mono (accright_any T C A q c R A0 A1 n0 c0 n1 c1 l0 l1 _ (HP.out.row0.ext hx.drawn) (HP.out.row1.ext hx.drawn)) ?_); rintro e w' ⟨rfl, hx5⟩; refine ⟨_, rfl, ?_⟩; rw [HRT.out]; exact detK.ext hx5)))
   refine sure_det (js := [(4, 52)]) (ts := [5]) (gd := (some (52, false))) (place_at HVS.out (k := 8) rfl) (by rw [HCS.out]; kernel_rfl) ?_ ?_
   ·intro wx hx ρ hρ hs hf; have hρc := hρ.const; have hρf := hρ.func; obtain ⟨sn4, -⟩ := hs
    obtain ⟨fx5, -⟩ := hf; rw [qs5] at fx5; rw [place_at HVS.out (k := 4) rfl] at sn4; replace sn4 : ρ (.tmp 52) = _ := sn4
    clear HCS HVS qs3 qs5 qs8
    first
     | (refine run_passed sn4 ?_; exact detK.mk)
     | (refine run_undef sn4 ?_; exact detK.mk)
     | (refine run_guarded sn4 ?_; unfold runs; go_simp; exact detK.mk)
   refine sure_det (js := [(8, 56), (4, 52)]) (ts := []) (gd := (some (52, false))) (place_at HVS.out (k := 9) rfl) (by rw [HCS.out]; kernel_rfl) ?_ ?_
   ·intro wx hx ρ hρ hs hf; have hρc := hρ.const; have hρf := hρ.func; obtain ⟨sn8, sn4, -⟩ := hs; rw [place_at HVS.out (k := 8) rfl] at sn8; replace sn8 : ρ (.tmp 56) = _ := sn8; rw [place_at HVS.out (k := 4) rfl] at sn4; replace sn4 : ρ (.tmp 52) = _ := sn4
    clear hf
    clear HCS HVS qs3 qs5 qs8
    first
     | (refine run_passed sn4 ?_; exact detK.mk)
     | (refine run_undef sn4 ?_; exact detK.mk)
     | (refine run_guarded sn4 ?_; obtain ⟨c0, c1, c2, c3, c4, c5, c6⟩ := hX wx hx.drawn; unfold runs; go_simp; exact detK.mk)
   refine sure_det (js := [(9, 57), (4, 52)]) (ts := []) (gd := (some (52, false))) (place_at HVS.out (k := 10) rfl) (by rw [HCS.out]; kernel_rfl) ?_ ?_
   ·intro wx hx ρ hρ hs hf; have hρc := hρ.const; have hρf := hρ.func; obtain ⟨sn9, sn4, -⟩ := hs; rw [place_at HVS.out (k := 9) rfl] at sn9; replace sn9 : ρ (.tmp 57) = _ := sn9; rw [place_at HVS.out (k := 4) rfl] at sn4; replace sn4 : ρ (.tmp 52) = _ := sn4
    clear hf
    clear HCS HVS qs3 qs5 qs8
    first
     | (refine run_passed sn4 ?_; exact detK.mk)
     | (refine run_undef sn4 ?_; exact detK.mk)
     | (refine run_guarded sn4 ?_; unfold runs; go_simp; exact detK.mk)
   refine sure_det (js := [(10, 58), (4, 52)]) (ts := []) (gd := (some (52, false))) (place_at HVS.out (k := 11) rfl) (by rw [HCS.out]; kernel_rfl) ?_ ?_
   ·intro wx hx ρ hρ hs hf; have hρc := hρ.const; have hρf := hρ.func; obtain ⟨sn10, sn4, -⟩ := hs; rw [place_at HVS.out (k := 10) rfl] at sn10; replace sn10 : ρ (.tmp 58) = _ := sn10; rw [place_at HVS.out (k := 4) rfl] at sn4; replace sn4 : ρ (.tmp 52) = _ := sn4
    clear hf
    clear HCS HVS qs3 qs5 qs8
    first
     | (refine run_passed sn4 ?_; exact detK.mk)
     | (refine run_undef sn4 ?_; exact detK.mk)
     | (refine run_guarded sn4 ?_; refine op_move rfl sn10 ?_; exact detK.mk)
   refine sure_det (js := [(11, 59)]) (ts := [5]) (gd := (some (59, true))) (place_at HVS.out (k := 12) rfl) (by rw [HCS.out]; kernel_rfl) ?_ ?_
   ·intro wx hx ρ hρ hs hf; have hρc := hρ.const; have hρf := hρ.func; obtain ⟨sn11, -⟩ := hs
    obtain ⟨fx5, -⟩ := hf; rw [qs5] at fx5; rw [place_at HVS.out (k := 11) rfl] at sn11; replace sn11 : ρ (.tmp 59) = _ := sn11
    clear HCS HVS qs3 qs5 qs8
    first
     | (refine run_passed sn11 ?_; exact detK.mk)
     | (refine run_undef sn11 ?_; exact detK.mk)
     | (refine run_guarded sn11 ?_; unfold runs; go_simp; exact detK.mk)
   refine sure_det (js := [(12, 60), (11, 59)]) (ts := []) (gd := (some (59, true))) (place_at HVS.out (k := 13) rfl) (by rw [HCS.out]; kernel_rfl) ?_ ?_
   ·intro wx hx ρ hρ hs hf; have hρc := hρ.const; have hρf := hρ.func; obtain ⟨sn12, sn11, -⟩ := hs; rw [place_at HVS.out (k := 12) rfl] at sn12; replace sn12 : ρ (.tmp 60) = _ := sn12; rw [place_at HVS.out (k := 11) rfl] at sn11; replace sn11 : ρ (.tmp 59) = _ := sn11
    clear hf
    clear HCS HVS qs3 qs5 qs8
    first
     | (refine run_passed sn11 ?_; exact detK.mk)
     | (refine run_undef sn11 ?_; exact detK.mk)
     | (refine run_guarded sn11 ?_; obtain ⟨c0, c1, c2, c3, c4, c5, c6⟩ := hX wx hx.drawn; unfold runs; go_simp; exact detK.mk)
   refine sure_det (js := [(13, 61), (11, 59)]) (ts := []) (gd := (some (59, true))) (place_at HVS.out (k := 14) rfl) (by rw [HCS.out]; kernel_rfl) ?_ ?_
   ·intro wx hx ρ hρ hs hf; have hρc := hρ.const; have hρf := hρ.func; obtain ⟨sn13, sn11, -⟩ := hs; rw [place_at HVS.out (k := 13) rfl] at sn13; replace sn13 : ρ (.tmp 61) = _ := sn13; rw [place_at HVS.out (k := 11) rfl] at sn11; replace sn11 : ρ (.tmp 59) = _ := sn11
    clear hf
    clear HCS HVS qs3 qs5 qs8
    first
     | (refine run_passed sn11 ?_; exact detK.mk)
     | (refine run_undef sn11 ?_; exact detK.mk)
     | (refine run_guarded sn11 ?_; unfold runs; go_simp; exact detK.mk)
   refine sure_det (js := [(11, 59), (14, 62), (4, 52)]) (ts := []) (gd := (some (52, false))) (place_at HVS.out (k := 15) rfl) (by rw [HCS.out]; kernel_rfl) ?_ ?_
   ·intro wx hx ρ hρ hs hf; have hρc := hρ.const; have hρf := hρ.func; obtain ⟨sn11, sn14, sn4, -⟩ := hs; rw [place_at HVS.out (k := 11) rfl] at sn11; replace sn11 : ρ (.tmp 59) = _ := sn11; rw [place_at HVS.out (k := 14) rfl] at sn14; replace sn14 : ρ (.tmp 62) = _ := sn14; rw [place_at HVS.out (k := 4) rfl] at sn4; replace sn4 : ρ (.tmp 52) = _ := sn4
    clear hf
    clear HCS HVS qs3 qs5 qs8
    first
     | (refine run_passed sn4 ?_; exact detK.mk)
     | (refine run_undef sn4 ?_; exact detK.mk)
     | (refine run_guarded sn4 ?_; (first | refine op_pick_t rfl sn11 sn14 ?_ | refine op_pick_f rfl sn11 (hρ.const _) ?_); exact detK.mk)
   refine sure_det (js := [(7, 55), (15, 63), (4, 52)]) (ts := []) (gd := (some (52, false))) (place_at HVS.out (k := 16) rfl) (by rw [HCS.out]; kernel_rfl) ?_ ?_
   ·intro wx hx ρ hρ hs hf; have hρc := hρ.const; have hρf := hρ.func; obtain ⟨sn7, sn15, sn4, -⟩ := hs; rw [place_at HVS.out (k := 7) rfl] at sn7; replace sn7 : ρ (.tmp 55) = _ := sn7; rw [place_at HVS.out (k := 15) rfl] at sn15; replace sn15 : ρ (.tmp 63) = _ := sn15; rw [place_at HVS.out (k := 4) rfl] at sn4; replace sn4 : ρ (.tmp 52) = _ := sn4
    clear hf
    clear HCS HVS qs3 qs5 qs8
    first
     | (refine run_passed sn4 ?_; exact detK.mk)
     | (refine run_undef sn4 ?_; exact detK.mk)
     | (refine run_guarded sn4 ?_; unfold runs; go_simp; exact detK.mk)
   refine sure_det (js := [(4, 52), (16, 64)]) (ts := []) (gd := none) (place_at HVS.out (k := 17) rfl) (by rw [HCS.out]; kernel_rfl) ?_ ?_
   ·intro wx hx ρ hρ hs hf; have hρc := hρ.const; have hρf := hρ.func; obtain ⟨sn4, sn16, -⟩ := hs; rw [place_at HVS.out (k := 4) rfl] at sn4; replace sn4 : ρ (.tmp 52) = _ := sn4; rw [place_at HVS.out (k := 16) rfl] at sn16; replace sn16 : ρ (.tmp 64) = _ := sn16
    clear hf
    clear HCS HVS qs3 qs5 qs8
    refine run_plain ?_
    first | refine op_pick_t rfl sn4 (hρ.const _) ?_ | refine op_pick_f rfl sn4 sn16 ?_
    exact detK.mk
   exact trivial
  case hend =>
   intro xs wx hx hg
   have gk0 : xs 0 = _ := goods_get hg (i := 0) (j := 0) (d := 48) rfl
   have gk1 : xs 1 = _ := goods_get hg (i := 1) (j := 1) (d := 49) rfl
   have gk2 : xs 2 = _ := goods_get hg (i := 2) (j := 2) (d := 50) rfl
   have gk3 : xs 3 = _ := goods_get hg (i := 3) (j := 3) (d := 51) rfl
   have gk4 : xs 4 = _ := goods_get hg (i := 4) (j := 4) (d := 52) rfl
   have gk5 : xs 5 = _ := goods_get hg (i := 5) (j := 5) (d := 53) rfl
   have gk6 : xs 6 = _ := goods_get hg (i := 6) (j := 6) (d := 54) rfl
   have gk7 : xs 7 = _ := goods_get hg (i := 7) (j := 7) (d := 55) rfl
   have gk8 : xs 8 = _ := goods_get hg (i := 8) (j := 8) (d := 56) rfl
   have gk9 : xs 9 = _ := goods_get hg (i := 9) (j := 9) (d := 57) rfl
   have gk10 : xs 10 = _ := goods_get hg (i := 10) (j := 10) (d := 58) rfl
   have gk11 : xs 11 = _ := goods_get hg (i := 11) (j := 11) (d := 59) rfl
   have gk12 : xs 12 = _ := goods_get hg (i := 12) (j := 12) (d := 60) rfl
   have gk13 : xs 13 = _ := goods_get hg (i := 13) (j := 13) (d := 61) rfl
   have gk14 : xs 14 = _ := goods_get hg (i := 14) (j := 14) (d := 62) rfl
   have gk15 : xs 15 = _ := goods_get hg (i := 15) (j := 15) (d := 63) rfl
   have gk16 : xs 16 = _ := goods_get hg (i := 16) (j := 16) (d := 64) rfl
   have gk17 : xs 17 = _ := goods_get hg (i := 17) (j := 17) (d := 65) rfl
   clear hg
   simp only [putAll, gk0, gk1, gk2, gk3, gk4, gk5, gk6, gk7, gk8, gk9, gk10, gk11, gk12, gk13, gk14, gk15, gk16, gk17]
   clear gk0 gk1 gk2 gk3 gk4 gk5 gk6 gk7 gk8 gk9 gk10 gk11 gk12 gk13 gk14 gk15 gk16 gk17
   clear xs
   simp only [Act.put, List.setIfInBounds_toArray, List.set_cons_zero, List.set_cons_succ]
   clear hX
   go_upto_region 11 with (fail)
   have hP := HP.out
   have hx_ := hx.drawn
   replace hI := heap_ext hI hx_
   replace hB := heap_ext hB hx_
   replace hA := heap_ext hA hx_
   replace ha := ha.ext hx_
   replace hP := hP.ext hx_
   replace hW := hW.trans hx_
   clear hx_ hx
   have e0 : wx.cell? ⟨gw, 0, none⟩ = some (.int .i64 T) := by simp [World.cell?, hB]
   have e1 : wx.cell? ⟨gw, 1, none⟩ = some (.int .i64 C) := by simp [World.cell?, hB]
   have e2 : wx.cell? ⟨gw, 2, none⟩ = some (.slice A q c) := by simp [World.cell?, hB]
   have e3 : wx.cell? ⟨gw, 3, none⟩ = some (.int .u64 R) := by simp [World.cell?, hB]
   have e4 : wx.cell? ⟨gw, 4, none⟩ = some (.slice A0 n0 c0) := by simp [World.cell?, hB]
   have e5 : wx.cell? ⟨gw, 5, none⟩ = some (.slice A1 n1 c1) := by simp [World.cell?, hB]
   cases rt
   ·go_wp2
    go_ret
    exact ⟨rfl, hW⟩
   rcases (Decidable.em (0 ≤ me)).symm with hm0 | hm0
   ·have hm0' : me < 0 := by omega
    go_wp2
    go_ret
    exact ⟨rfl, hW⟩
   have hm0' : ¬ me < 0 := by omega
   rcases (Decidable.em (me < T)).symm with hm1 | hm1
   ·have hm1' : T ≤ me := by omega
    go_wp2
    go_ret
    exact ⟨rfl, hW⟩
   have hm1' : ¬ T ≤ me := by omega
   obtain ⟨rfl, hnT, hmay, hqq, hF, hV⟩ := hP.small HRT.out f3 hq6
   have HQ := Lib.hid hqq
   have HN := Lib.hid hnT
   clear hqq hnT hmay HP HRT f1 f2 f3 hP
   generalize hX0 : (⟨T, C, ws, R, n1, l0.map St.key, l1.map St.key⟩ : WldK) = X0 at *
   have HL : X0.ws.length = ws.length := by rw [← hX0]
   have HLL := Lib.hid HL
   clear hX0 HL
   have f0 : wx.cell? ⟨ga, 0, none⟩ = some (.int .i64 a.kind) := by simp [World.cell?, hA]
   have f1 : wx.cell? ⟨ga, 1, none⟩ = some (.int .i64 a.cell) := by simp [World.cell?, hA]
   have f2 : wx.cell? ⟨ga, 2, none⟩ = some (.int .u64 a.a) := by simp [World.cell?, hA]
   have f3 : wx.cell? ⟨ga, 3, none⟩ = some (.int .u64 a.b) := by simp [World.cell?, hA]
   have f4 : wx.cell? ⟨ga, 4, none⟩ = some (.slice D m cd) := by simp [World.cell?, hA]
   have f5 : wx.cell? ⟨ga, 5, none⟩ = some (.slice E p ce) := by simp [World.cell?, hA]
   clear e0 e1 e2 e3 e4 e5
   have e0 : wx.cell? ⟨gw, 0, none⟩ = some (.int .i64 T) := by simp [World.cell?, hB]
   have e1 : wx.cell? ⟨gw, 1, none⟩ = some (.int .i64 C) := by simp [World.cell?, hB]
   have e2 : wx.cell? ⟨gw, 2, none⟩ = some (.slice A q c) := by simp [World.cell?, hB]
   have e3 : wx.cell? ⟨gw, 3, none⟩ = some (.int .u64 R) := by simp [World.cell?, hB]
   have e4 : wx.cell? ⟨gw, 4, none⟩ = some (.slice A0 n1 c0) := by simp [World.cell?, hB]
   have e5 : wx.cell? ⟨gw, 5, none⟩ = some (.slice A1 n1 c1) := by simp [World.cell?, hB]
   go_wp2_with fail
   refine (do_all _ _ X0 me a fail _ hV ha (hF.le_ (by unfold useM; split <;> omega))).mono ?_
   rintro e u1 ⟨v1, r1, rfl, hV1, hR1, hu_⟩
   generalize hX1 : doK X0 me a fail = X1 at hV1
   generalize hY1 : doR X0 a fail = R1 at hR1
   have hX1 := Lib.hid hX1
   have hY1 := Lib.hid hY1
   have hV1_ := hV1
   have hR1_ := hR1
   obtain ⟨xA1, xq1, xc1, xB1, xC1, xb1, xd1, rfl, hw1, hd1⟩ := hV1_
   obtain ⟨yS1, ys1, yt1, rfl, hs1⟩ := hR1_
   clear e0 e1 e2 e3 e4 e5 f0 f1 f2 f3 f4 f5
   replace hI := heap_ext hI hu_
   replace hB := heap_ext hB hu_
   replace hA := heap_ext hA hu_
   replace ha := ha.ext hu_
   replace hV := hV.ext hu_
   replace hW := hW.trans hu_
   clear hu_
   go_upto_region 14 with (fail)
   obtain ⟨hx_, hbx1, hrx1⟩ := two_boxes7 u1 (.cells #[.int .i64 X1.T, .int .i64 X1.C, .slice xA1 xq1 xc1, .int .u64 X1.R, .slice xB1 X1.n xb1, .slice xC1 X1.n xd1] 32) (.cells #[.int .u64 R1.N, .slice yS1 ys1 yt1, .bool R1.fail] 51)
   generalize (u1.alloc (.cells #[.int .i64 X1.T, .int .i64 X1.C, .slice xA1 xq1 xc1, .int .u64 X1.R, .slice xB1 X1.n xb1, .slice xC1 X1.n xd1] 32)).alloc (.cells #[.int .u64 R1.N, .slice yS1 ys1 yt1, .bool R1.fail] 51) = U1 at *
   generalize u1.heap.size = g1 at *
   replace hI := heap_ext hI hx_
   replace hB := heap_ext hB hx_
   replace hA := heap_ext hA hx_
   replace ha := ha.ext hx_
   replace hV := hV.ext hx_
   replace hV1 := hV1.ext hx_
   replace hR1 := hR1.ext hx_
   replace hw1 := hw1.ext hx_
   replace hs1 := hs1.ext hx_
   replace hW := hW.trans hx_
   clear hx_
   have f0 : U1.cell? ⟨ga, 0, none⟩ = some (.int .i64 a.kind) := by simp [World.cell?, hA]
   have f1 : U1.cell? ⟨ga, 1, none⟩ = some (.int .i64 a.cell) := by simp [World.cell?, hA]
   have f2 : U1.cell? ⟨ga, 2, none⟩ = some (.int .u64 a.a) := by simp [World.cell?, hA]
   have f3 : U1.cell? ⟨ga, 3, none⟩ = some (.int .u64 a.b) := by simp [World.cell?, hA]
   have f4 : U1.cell? ⟨ga, 4, none⟩ = some (.slice D m cd) := by simp [World.cell?, hA]
   have f5 : U1.cell? ⟨ga, 5, none⟩ = some (.slice E p ce) := by simp [World.cell?, hA]
   have e0 : U1.cell? ⟨gw, 0, none⟩ = some (.int .i64 T) := by simp [World.cell?, hB]
   have e1 : U1.cell? ⟨gw, 1, none⟩ = some (.int .i64 C) := by simp [World.cell?, hB]
   have e2 : U1.cell? ⟨gw, 2, none⟩ = some (.slice A q c) := by simp [World.cell?, hB]
   have e3 : U1.cell? ⟨gw, 3, none⟩ = some (.int .u64 R) := by simp [World.cell?, hB]
   have e4 : U1.cell? ⟨gw, 4, none⟩ = some (.slice A0 n1 c0) := by simp [World.cell?, hB]
   have e5 : U1.cell? ⟨gw, 5, none⟩ = some (.slice A1 n1 c1) := by simp [World.cell?, hB]
   go_wp2_with fail
   refine (rdo_all _ _ X0 me a fail _ hV ha (hF.le_ (by unfold useM; split <;> omega))).mono ?_
   rintro e u2 ⟨v2, r2, rfl, hV2, hR2, hu_⟩
   rw [hX1.out] at hV2
   rw [hY1.out] at hR2
   have hV2_ := hV2
   have hR2_ := hR2
   obtain ⟨xA2, xq2, xc2, xB2, xC2, xb2, xd2, rfl, hw2, hd2⟩ := hV2_
   obtain ⟨yS2, ys2, yt2, rfl, hs2⟩ := hR2_
   clear f0 f1 f2 f3 f4 f5 e0 e1 e2 e3 e4 e5
   replace hI := heap_ext hI hu_
   replace hB := heap_ext hB hu_
   replace hA := heap_ext hA hu_
   replace hbx1 := heap_ext hbx1 hu_
   replace hrx1 := heap_ext hrx1 hu_
   replace ha := ha.ext hu_
   replace hV := hV.ext hu_
   replace hV1 := hV1.ext hu_
   replace hR1 := hR1.ext hu_
   replace hw1 := hw1.ext hu_
   replace hs1 := hs1.ext hu_
   replace hW := hW.trans hu_
   clear hu_
   go_upto_region 15 with (fail)
   obtain ⟨hx_, hbx2, hrx2⟩ := two_boxes7 u2 (.cells #[.int .i64 X1.T, .int .i64 X1.C, .slice xA2 xq2 xc2, .int .u64 X1.R, .slice xB2 X1.n xb2, .slice xC2 X1.n xd2] 32) (.cells #[.int .u64 R1.N, .slice yS2 ys2 yt2, .bool R1.fail] 51)
   generalize (u2.alloc (.cells #[.int .i64 X1.T, .int .i64 X1.C, .slice xA2 xq2 xc2, .int .u64 X1.R, .slice xB2 X1.n xb2, .slice xC2 X1.n xd2] 32)).alloc (.cells #[.int .u64 R1.N, .slice yS2 ys2 yt2, .bool R1.fail] 51) = U2 at *
   generalize u2.heap.size = g2 at *
   replace hI := heap_ext hI hx_
   replace hB := heap_ext hB hx_
   replace hA := heap_ext hA hx_
   replace hbx1 := heap_ext hbx1 hx_
   replace hrx1 := heap_ext hrx1 hx_
   replace ha := ha.ext hx_
   replace hV := hV.ext hx_
   replace hV1 := hV1.ext hx_
   replace hR1 := hR1.ext hx_
   replace hw1 := hw1.ext hx_
   replace hs1 := hs1.ext hx_
   replace hV2 := hV2.ext hx_
   replace hR2 := hR2.ext hx_
   replace hw2 := hw2.ext hx_
   replace hs2 := hs2.ext hx_
   replace hW := hW.trans hx_
   clear hx_
   have hn : X1.ws.length ≤ 1000000 := by
    have h1 := doK_len X0 me a fail
    rw [hX1.out, HLL.out, HWL.out] at h1
    omega
   have x0 : U2.cell? ⟨g1, 0, none⟩ = some (.int .i64 X1.T) := by simp [World.cell?, hbx1]
   have x1 : U2.cell? ⟨g1, 1, none⟩ = some (.int .i64 X1.C) := by simp [World.cell?, hbx1]
   have x2 : U2.cell? ⟨g1, 2, none⟩ = some (.slice xA1 xq1 xc1) := by simp [World.cell?, hbx1]
   have x3 : U2.cell? ⟨g1, 3, none⟩ = some (.int .u64 X1.R) := by simp [World.cell?, hbx1]
   have x4 : U2.cell? ⟨g1, 4, none⟩ = some (.slice xB1 X1.n xb1) := by simp [World.cell?, hbx1]
   have x5 : U2.cell? ⟨g1, 5, none⟩ = some (.slice xC1 X1.n xd1) := by simp [World.cell?, hbx1]
   have y0 : U2.cell? ⟨g2, 0, none⟩ = some (.int .i64 X1.T) := by simp [World.cell?, hbx2]
   have y1 : U2.cell? ⟨g2, 1, none⟩ = some (.int .i64 X1.C) := by simp [World.cell?, hbx2]
   have y2 : U2.cell? ⟨g2, 2, none⟩ = some (.slice xA2 xq2 xc2) := by simp [World.cell?, hbx2]
   have y3 : U2.cell? ⟨g2, 3, none⟩ = some (.int .u64 X1.R) := by simp [World.cell?, hbx2]
   have y4 : U2.cell? ⟨g2, 4, none⟩ = some (.slice xB2 X1.n xb2) := by simp [World.cell?, hbx2]
   have y5 : U2.cell? ⟨g2, 5, none⟩ = some (.slice xC2 X1.n xd2) := by simp [World.cell?, hbx2]
   have r0 : U2.cell? ⟨g1 + 1, 0, none⟩ = some (.int .u64 R1.N) := by simp [World.cell?, hrx1]
   have r1 : U2.cell? ⟨g1 + 1, 1, none⟩ = some (.slice yS1 ys1 yt1) := by simp [World.cell?, hrx1]
   have r2 : U2.cell? ⟨g1 + 1, 2, none⟩ = some (.bool R1.fail) := by simp [World.cell?, hrx1]
   have s0 : U2.cell? ⟨g2 + 1, 0, none⟩ = some (.int .u64 R1.N) := by simp [World.cell?, hrx2]
   have s1 : U2.cell? ⟨g2 + 1, 1, none⟩ = some (.slice yS2 ys2 yt2) := by simp [World.cell?, hrx2]
   have s2 : U2.cell? ⟨g2 + 1, 2, none⟩ = some (.bool R1.fail) := by simp [World.cell?, hrx2]
   go_wp2_with fail
   refine (rasame_yes hV1 hV2 hn).mono ?_
   rintro e U3 ⟨rfl, hx⟩
   clear x0 x1 x2 x3 x4 x5 y0 y1 y2 y3 y4 y5 r0 r1 r2 s0 s1 s2
   replace hI := heap_ext hI hx
   replace hB := heap_ext hB hx
   replace hA := heap_ext hA hx
   replace hbx1 := heap_ext hbx1 hx
   replace hrx1 := heap_ext hrx1 hx
   replace hbx2 := heap_ext hbx2 hx
   replace hrx2 := heap_ext hrx2 hx
   replace ha := ha.ext hx
   replace hV := hV.ext hx
   replace hV1 := hV1.ext hx
   replace hR1 := hR1.ext hx
   replace hw1 := hw1.ext hx
   replace hs1 := hs1.ext hx
   replace hV2 := hV2.ext hx
   replace hR2 := hR2.ext hx
   replace hw2 := hw2.ext hx
   replace hs2 := hs2.ext hx
   replace hW := hW.trans hx
   clear hx
   have r0 : U3.cell? ⟨g1 + 1, 0, none⟩ = some (.int .u64 R1.N) := by simp [World.cell?, hrx1]
   have r1 : U3.cell? ⟨g1 + 1, 1, none⟩ = some (.slice yS1 ys1 yt1) := by simp [World.cell?, hrx1]
   have r2 : U3.cell? ⟨g1 + 1, 2, none⟩ = some (.bool R1.fail) := by simp [World.cell?, hrx1]
   have s0 : U3.cell? ⟨g2 + 1, 0, none⟩ = some (.int .u64 R1.N) := by simp [World.cell?, hrx2]
   have s1 : U3.cell? ⟨g2 + 1, 1, none⟩ = some (.slice yS2 ys2 yt2) := by simp [World.cell?, hrx2]
   have s2 : U3.cell? ⟨g2 + 1, 2, none⟩ = some (.bool R1.fail) := by simp [World.cell?, hrx2]
   go_wp2_with fail
   refine (told_yes hR1 hR2).mono ?_
   rintro e U4 ⟨rfl, hx⟩
   clear r0 r1 r2 s0 s1 s2
   replace hI := heap_ext hI hx
   replace hB := heap_ext hB hx
   replace hA := heap_ext hA hx
   replace hbx1 := heap_ext hbx1 hx
   replace hrx1 := heap_ext hrx1 hx
   replace hbx2 := heap_ext hbx2 hx
   replace hrx2 := heap_ext hrx2 hx
   replace ha := ha.ext hx
   replace hV := hV.ext hx
   replace hV1 := hV1.ext hx
   replace hR1 := hR1.ext hx
   replace hw1 := hw1.ext hx
   replace hs1 := hs1.ext hx
   replace hV2 := hV2.ext hx
   replace hR2 := hR2.ext hx
   replace hw2 := hw2.ext hx
   replace hs2 := hs2.ext hx
   replace hW := hW.trans hx
   clear hx
   go_wp2
   go_ret
   exact ⟨rfl, hW⟩
set_option maxRecDepth 100000 in
theorem open_tells10 {H : Type} {enc : TypeId × Value → H} {w : World} {base : Nat} {b0 : Nat} {v : Value} {d : DataW H} {p : List MemPlace} (hv : Value.okWide Try.prog w .any b0 70 v) (h : DataW.Trod enc Try.prog w base (fun _ => true) true 70 v d p) (hL : Light Try.prog 70 d) :
  ∃ (T C : Int) (A : Option Addr) (q c : Nat) (ws : List Int) (R : Int) (A0 A1 : Option Addr) (n0 c0 n1 c1 : Nat) (l0 l1 : List St) (me : Int) (a : AccK) (D : Option Addr) (m cd : Nat) (E : Option Addr) (p ce : Nat) (fail : Bool),
   v = .agg #[.int .i64 T, .int .i64 C, .slice A q c, .int .u64 R, .slice A0 n0 c0, .slice A1 n1 c1, .int .i64 me, .int .i64 a.kind, .int .i64 a.cell, .int .u64 a.a, .int .u64 a.b, .slice D m cd, .slice E p ce, .bool fail] ∧ WldP w A q c ws R A0 A1 n0 c0 n1 c1 l0 l1 ∧ AccV w (.agg #[.int .i64 a.kind, .int .i64 a.cell, .int .u64 a.a, .int .u64 a.b, .slice D m cd, .slice E p ce]) a ∧ a.data.length = m ∧ m ≤ 9223372036854775807 ∧ p ≤ 9223372036854775807 := by
 obtain ⟨cs, rfl, hsz⟩ := okWide_struct Try.underlying70 hv
 obtain ⟨fuel, hf⟩ := h
 obtain ⟨k, hg⟩ := open_inner_w Try.underlying70 hf hL
 have hl : cs.toList.length = 14 := by simpa [show Try.prog.cellsOf 70 = 14 by kernel_rfl] using hsz
 have hcs : (Value.agg cs).cells.toList = cs.toList := rfl
 rw [hcs] at hg
 have hcs2 : cs = cs.toList.toArray := by simp
 rw [hcs2]
 generalize cs.toList = l at *
 match l, hl with
 | [x0, x1, x2, x3, x4, x5, x6, x7, x8, x9, x10, x11, x12, x13], _ =>
 obtain ⟨_, t0, y0⟩ := hg 0 _ rfl
 obtain ⟨_, t1, -⟩ := hg 1 _ rfl
 obtain ⟨_, t2, -⟩ := hg 2 _ rfl
 obtain ⟨_, t3, -⟩ := hg 3 _ rfl
 obtain ⟨T, C, A, q, c, ws, R, A0, A1, n0, c0, n1, c1, l0, l1, e0, hP⟩ := open_world (by simp [cellsWorld]) t0 y0
 obtain ⟨me, e1, _, w1⟩ := DataW.trod_int Try.underlying3 t1
 obtain ⟨a, hA⟩ := open_access (by simp [show Try.prog.cellsOf 42 = 6 by kernel_rfl]) t2
 obtain ⟨fail, e3, _⟩ := DataW.trod_bool Try.underlying4 t3
 simp [cellsIntS, cellsWorld, cellsBoolS, show Try.prog.cellsOf 42 = 6 by kernel_rfl] at e0 e1 e3 hA
 obtain ⟨rfl, rfl, rfl, rfl, rfl, rfl⟩ := e0
 subst e1 e3
 have hA' := hA
 obtain ⟨D, m, cd, E, p, ce, e2, hD, hE, -⟩ := hA
 simp only [Value.agg.injEq, Array.mk.injEq, List.cons.injEq, and_true] at e2
 obtain ⟨rfl, rfl, rfl, rfl, rfl, rfl⟩ := e2
 exact ⟨T, C, A, q, c, ws, R, A0, A1, n0, c0, n1, c1, l0, l1, me, a, D, m, cd, E, p, ce, fail, rfl, hP, hA', hD.len, Nat.le_trans hD.le hD.cap, Nat.le_trans hE.le hE.cap⟩
set_option maxRecDepth 100000 in
theorem AccessTells_lifted (os : Os) (started : os.Started) (H : Type) (enc : TypeId × Value → H) :
  ReturnsInHanded {} Try.checked os 5 .any (Rows.accessTellsSpec.pre6 enc Try.prog Try.f5 Rows.accessTellsRow.domain false) (Rows.accessTellsSpec.post enc Try.prog Try.f5 false true false false) := by
 refine law_row_w os started H enc Rows.accessTellsSpec rfl (fun ds h => by
  match ds, h with
  | [_], _ => rfl) (by kernel_rfl) Try.func5 rfl
  (by rw [Try.params5]; intro t ht; simp at ht; subst ht; exact ⟨by kernel_rfl, of_decide_eq_true (by kernel_rfl)⟩)
  (ChangeSpec.witness6 (enc := enc) (C := Try.checked) false ⟨#[], #[.agg #[.int .i64 0, .int .i64 0, .slice none 0 0, .int .u64 0, .slice none 0 0, .slice none 0 0, .int .i64 0, .int .i64 0, .int .i64 0, .int .u64 0, .int .u64 0, .slice none 0 0, .slice none 0 0, .bool false]], []⟩ 8 (by kernel_rfl) (by kernel_rfl) (by kernel_rfl) (by kernel_rfl)) ?_
 intro W base args ds ps hval hA hlt hlight
 rw [Try.params5] at hA hval
 obtain ⟨v0, d0, rfl, rfl, h0⟩ := trodAll_one hA
 obtain ⟨T, C, A, q, c, ws, R, A0, A1, n0, c0, n1, c1, l0, l1, me, a, D, m, cd, E, p, ce, fail, rfl, hP, ha, hml, hmm, hpp⟩ := open_tells10 (hval 0 _ v0 rfl rfl) h0 (hlight 0 _ _ rfl rfl)
 exact tells10_walk T C A q c ws R A0 A1 n0 c0 n1 c1 l0 l1 me a D m cd E p ce fail W hP ha hml hmm hpp
theorem AccessTells_holds : Rows.AccessTellsSaid :=
 OpenClaim.holds_of_wide 5 Try.f5 rfl rfl rfl rfl rfl rfl rfl ⟨rfl, rfl, rfl, rfl, rfl⟩ rfl rfl rfl rfl rfl (by kernel_rfl) Try.func5 (by kernel_rfl)
  (of_decide_eq_true (by kernel_rfl)) (by unfold Func.isWrapper; rw [if_neg (of_decide_eq_false (by kernel_rfl))]; exact ⟨rfl, rfl⟩)
  (fun os started H enc _ => AccessTells_lifted os started H enc)
#print axioms AccessTells_holds
end Go.Proofs.Ytennnhfaghdeoaa
