/- Proved: the law AccessOne (an access turns one word at most, and that at its cell, or the disk alone; what fails turns nothing; a world that was stays as it was) returns true at every input and turns none of its arguments. No condition. -/
import Derived.Test.YtennnhfaghdeoaaAccLaw
import Derived.Test.YtennnhfaghdeoaaDiskAny
import Derived.Test.YtennnhfaghdeoaaSureL
namespace Go.Proofs.Ytennnhfaghdeoaa
open Go.ChangeShapes Go.WideShapes Go.ChangeAt Go.RowKit

theorem right_app {k : Key} {b : List UInt8} (h : rightB k.2 k.1.length = true) : rightB (appK b k).2 (appK b k).1.length = true := by
 obtain ⟨h1, h2⟩ := rightB_spec h
 have h3 : (k.1 ++ b).length = k.1.length + b.length := List.length_append
 have h4 : 0 ≤ k.2 ∧ k.2 ≤ ((k.1 ++ b).length : Int) := by rw [h3]; omega
 unfold rightB
 exact Bool.and_eq_true _ _ ▸ ⟨decide_eq_true h4.1, decide_eq_true h4.2⟩
theorem right_syn {k : Key} : rightB (synK k).2 (synK k).1.length = true := by
 simp [rightB, synK]
theorem allR_turn {K : List Key} {i : Int} {f : Key → Key} (h : allR K = true) (hf : ∀ k : Key, rightB k.2 k.1.length = true → rightB (f k).2 (f k).1.length = true) : allR (turnK K i f) = true := by
 unfold allR at *
 rw [List.all_eq_true] at *
 intro k hk
 obtain ⟨j, hj⟩ := List.getElem?_of_mem hk
 rw [turnK_at] at hj
 obtain ⟨k', hk', rfl⟩ := Option.map_eq_some_iff.1 hj
 have h1 := h k' (List.mem_of_getElem? hk')
 split
 ·exact hf k' h1
 ·exact h1
theorem allR_zero (n : Nat) : allR (List.replicate n ([], 0)) = true := by
 unfold allR
 rw [List.all_eq_true]
 intro k hk
 obtain ⟨_, rfl⟩ := List.mem_replicate.1 hk
 rfl
theorem allR_act0 {row i : Int} {f : Key → Key} {K : List Key} (h : allR K = true) (hf : ∀ k : Key, rightB k.2 k.1.length = true → rightB (f k).2 (f k).1.length = true) : allR (act0 row i f K) = true := by
 unfold act0; split
 ·exact allR_turn h hf
 ·exact h
theorem allR_act1 {row i : Int} {f : Key → Key} {K : List Key} (h : allR K = true) (hf : ∀ k : Key, rightB k.2 k.1.length = true → rightB (f k).2 (f k).1.length = true) : allR (act1 row i f K) = true := by
 unfold act1; split
 ·exact allR_turn h hf
 ·exact h
theorem allR_str0 {R : Int} {n : Nat} {me : Int} {A : AccK} {K : List Key} (h : allR K = true) : allR (strK0 R n me A K) = true := by
 unfold strK0
 repeat' split
 ·exact allR_act0 h fun k => right_app
 ·exact allR_act0 h fun k _ => right_syn
 ·unfold clr0; split
  ·exact allR_zero n
  ·exact h
 ·exact allR_act0 h fun k => right_app
 ·exact allR_act0 h fun k _ => right_syn
 ·exact h
theorem allR_str1 {R : Int} {n : Nat} {me : Int} {A : AccK} {K : List Key} (h : allR K = true) : allR (strK1 R n me A K) = true := by
 unfold strK1
 repeat' split
 ·exact allR_act1 h fun k => right_app
 ·exact allR_act1 h fun k _ => right_syn
 ·unfold clr1; split
  ·exact allR_zero n
  ·exact h
 ·exact allR_act1 h fun k => right_app
 ·exact allR_act1 h fun k _ => right_syn
 ·exact h
/-- a right world stays right -/
theorem rightX_do {X : WldK} {me : Int} {A : AccK} {f : Bool} (h : rightX X = true) : rightX (doK X me A f) = true := by
 simp only [rightX, Bool.and_eq_true] at h ⊢
 obtain ⟨h1, ⟨h2, h3, h4⟩, h5⟩ := h
 unfold doK
 split
 ·split
  ·exact ⟨h1, ⟨h2, h3, h4⟩, h5⟩
  ·exact ⟨h1, ⟨h2, allR_str0 h3, allR_str1 h4⟩, h5⟩
 ·split
  ·split
   ·rename_i hl
    refine ⟨?_, ⟨h2, h3, h4⟩, h5⟩
    simp only
    rw [hl]; exact h1
   ·exact ⟨h1, ⟨h2, h3, h4⟩, h5⟩
  ·refine ⟨?_, ⟨h2, h3, h4⟩, h5⟩
   simp only [wordsK_length]
   exact h1
/-- what one access leaves -/
theorem one_plain {X0 X1 : WldK} {me : Int} {A : AccK} {f : Bool} (h : doK X0 me A f = X1) (h13 : ¬ A.kind = 13) : X1.T = X0.T ∧ X1.C = X0.C ∧ X1.n = X0.n ∧ X1.ws.length = X0.ws.length ∧
  (∀ i : Nat, X1.ws.getD i 0 = X0.ws.getD i 0 ∨ (A.cell = (i : Int) ∧ A.kind ≤ 4)) ∧ (diskKind A.kind = false ∨ f = true → X1.R = X0.R ∧ X1.K0 = X0.K0 ∧ X1.K1 = X0.K1) := by
 subst h
 unfold doK
 split
 ·rename_i hk
  split
  ·exact ⟨rfl, rfl, rfl, rfl, fun i => .inl rfl, fun _ => ⟨rfl, rfl, rfl⟩⟩
  ·rename_i hf
   exact ⟨rfl, rfl, rfl, rfl, fun i => .inl rfl, fun h => by rcases h with h | h <;> simp_all⟩
 ·refine ⟨rfl, rfl, rfl, wordsK_length _ _, fun i => ?_, fun _ => ⟨rfl, rfl, rfl⟩⟩
  simp only
  cases hin : inW X0.ws.length A
  ·rw [wordsK_out hin]; exact .inl rfl
  ·rw [wordsK_in hin]
   have h1 := inW_iff.1 hin
   by_cases hi : A.cell.toNat = i
   ·exact .inr ⟨by omega, h1.2.1⟩
   ·left
    simp only [List.getD_eq_getElem?_getD, List.getElem?_set_ne hi]
theorem one_res {X0 : WldK} {R1 : ResK} {A : AccK} {f : Bool} (h : doR X0 A f = R1) (h13 : ¬ A.kind = 13) : R1.fail = (f && diskKind A.kind) ∧ (R1.fail = true → R1.b = [] ∧ R1.N = 0) := by
 subst h
 unfold doR
 split
 ·rename_i hk
  cases f
  ·simp only [hk, Bool.false_and, Bool.false_eq_true, if_false]
   unfold strR
   repeat' split
   all_goals exact ⟨rfl, fun h => by cases h⟩
  ·simp [hk]
 ·rename_i hk
  have hk' : diskKind A.kind = false := by simpa using hk
  rw [hk', Bool.and_false]
  unfold wordsR
  split
  ·exact ⟨rfl, fun h => by cases h⟩
  ·exact ⟨rfl, fun h => by cases h⟩
theorem WldV.dk {w : World} {T C : Int} {A : Option Addr} {q c : Nat} {R : Int} {A0 A1 : Option Addr} {n0 c0 n1 c1 : Nat} {X : WldK} (h : WldV w (.agg #[.int .i64 T, .int .i64 C, .slice A q c, .int .u64 R, .slice A0 n0 c0, .slice A1 n1 c1]) X) :
  DkK w (.agg #[.int .u64 R, .slice A0 n0 c0, .slice A1 n1 c1]) X.R X.n X.K0 X.K1 := by
 obtain ⟨_, _, _, _, _, _, _, e, _, h⟩ := h
 simp only [Value.agg.injEq, Array.mk.injEq, List.cons.injEq, Value.slice.injEq, Value.int.injEq, and_true, true_and] at e
 obtain ⟨-, -, -, rfl, ⟨rfl, rfl, rfl⟩, rfl, e7, rfl⟩ := e
 rw [e7]
 exact h
theorem dsame_eq {R R' : Int} {n n' : Nat} {K0 K1 K0' K1' : List Key} {v v' : Value} {w : World} (h : DkK w v R n K0 K1) (h' : DkK w v' R' n' K0' K1') (e1 : R = R') (e2 : n = n') (e3 : K0 = K0') (e4 : K1 = K1') :
  Calls Try.prog 38 #[v, v'] w fun e w' => e = .returned (.bool true) ∧ Ext w w' := by
 subst e1 e2 e3 e4; exact dsame_K h h'
theorem dsame_any_eq {R R' : Int} {n n' : Nat} {K0 K1 K0' K1' : List Key} {v v' : Value} {w : World} (h : DkK w v R n K0 K1) (h' : DkK w v' R' n' K0' K1') (e2 : n = n') :
  Calls Try.prog 38 #[v, v'] w fun e w' => SomeB e ∧ Ext w w' := by
 subst e2; exact dsame_any h h'
set_option maxRecDepth 100000 in
set_option maxHeartbeats 8000000 in
theorem one_walk (T C : Int) (A : Option Addr) (q c : Nat) (ws : List Int) (R : Int) (A0 A1 : Option Addr) (n0 c0 n1 c1 : Nat) (l0 l1 : List St) (me : Int) (a : AccK) (D : Option Addr) (m cd : Nat) (E : Option Addr) (p ce : Nat) (fail : Bool) (w : World) (hP : WldP w A q c ws R A0 A1 n0 c0 n1 c1 l0 l1) (ha : AccV w (.agg #[.int .i64 a.kind, .int .i64 a.cell, .int .u64 a.a, .int .u64 a.b, .slice D m cd, .slice E p ce]) a) (hml : a.data.length = m) (hmm : m ≤ 9223372036854775807) :
  Calls Try.prog 6 #[.agg #[.int .i64 T, .int .i64 C, .slice A q c, .int .u64 R, .slice A0 n0 c0, .slice A1 n1 c1, .int .i64 me, .int .i64 a.kind, .int .i64 a.cell, .int .u64 a.a, .int .u64 a.b, .slice D m cd, .slice E p ce, .bool fail]] w fun e w' => e = .returned (.bool true) ∧ Ext w w' := by
 have hqc := Nat.le_trans hP.words.le hP.words.cap
 simp only [maxLen] at hqc
 obtain ⟨i0, hi0, hz0, hz1, hz2⟩ := info_parts info_u64w
 have hbs : ∀ W : World, (Instr.buildSlice 23 0 #[]).run Try.prog W = .ok (.slice (some ⟨W.heap.size, 0, none⟩) 0 0) (W.alloc (.cells #[] 26)) := fun _ => by kernel_rfl
 have hW : Ext w (w.alloc (.cells #[.int .i64 T, .int .i64 C, .slice A q c, .int .u64 R, .slice A0 n0 c0, .slice A1 n1 c1, .int .i64 me, .int .i64 a.kind, .int .i64 a.cell, .int .u64 a.a, .int .u64 a.b, .slice D m cd, .slice E p ce, .bool fail] 76)) := (Below.refl _ w).alloc (Nat.le_refl _) _
 have hI := heap_alloc_new w (.cells #[.int .i64 T, .int .i64 C, .slice A q c, .int .u64 R, .slice A0 n0 c0, .slice A1 n1 c1, .int .i64 me, .int .i64 a.kind, .int .i64 a.cell, .int .u64 a.a, .int .u64 a.b, .slice D m cd, .slice E p ce, .bool fail] 76)
 go_enter Try.func6, Try.ntmps6
 go_upto_region 1 with (fail)
 generalize w.alloc (.cells #[.int .i64 T, .int .i64 C, .slice A q c, .int .u64 R, .slice A0 n0 c0, .slice A1 n1 c1, .int .i64 me, .int .i64 a.kind, .int .i64 a.cell, .int .u64 a.a, .int .u64 a.b, .slice D m cd, .slice E p ce, .bool fail] 76) = W0 at *
 generalize w.heap.size = g0 at *
 replace hP := hP.ext hW
 replace ha := ha.ext hW
 have i0 : W0.cell? ⟨g0, 0, none⟩ = some (.int .i64 T) := by simp [World.cell?, hI]
 have i1 : W0.cell? ⟨g0, 1, none⟩ = some (.int .i64 C) := by simp [World.cell?, hI]
 have i2 : W0.cell? ⟨g0, 2, none⟩ = some (.slice A q c) := by simp [World.cell?, hI]
 have i3 : W0.cell? ⟨g0, 3, none⟩ = some (.int .u64 R) := by simp [World.cell?, hI]
 have i4 : W0.cell? ⟨g0, 4, none⟩ = some (.slice A0 n0 c0) := by simp [World.cell?, hI]
 have i5 : W0.cell? ⟨g0, 5, none⟩ = some (.slice A1 n1 c1) := by simp [World.cell?, hI]
 have i6 : W0.cell? ⟨g0, 6, none⟩ = some (.int .i64 me) := by simp [World.cell?, hI]
 have i7 : W0.cell? ⟨g0, 7, none⟩ = some (.int .i64 a.kind) := by simp [World.cell?, hI]
 have i8 : W0.cell? ⟨g0, 8, none⟩ = some (.int .i64 a.cell) := by simp [World.cell?, hI]
 have i9 : W0.cell? ⟨g0, 9, none⟩ = some (.int .u64 a.a) := by simp [World.cell?, hI]
 have i10 : W0.cell? ⟨g0, 10, none⟩ = some (.int .u64 a.b) := by simp [World.cell?, hI]
 have i11 : W0.cell? ⟨g0, 11, none⟩ = some (.slice D m cd) := by simp [World.cell?, hI]
 have i12 : W0.cell? ⟨g0, 12, none⟩ = some (.slice E p ce) := by simp [World.cell?, hI]
 have i13 : W0.cell? ⟨g0, 13, none⟩ = some (.bool fail) := by simp [World.cell?, hI]
 go_upto_region 2 with (fail)
 have hx_ : Ext W0 (W0.alloc (.cells #[.int .i64 T, .int .i64 C, .slice A q c, .int .u64 R, .slice A0 n0 c0, .slice A1 n1 c1] 32)) := (Below.refl _ W0).alloc (Nat.le_refl _) _
 have hB := heap_alloc_new W0 (.cells #[.int .i64 T, .int .i64 C, .slice A q c, .int .u64 R, .slice A0 n0 c0, .slice A1 n1 c1] 32)
 generalize W0.alloc (.cells #[.int .i64 T, .int .i64 C, .slice A q c, .int .u64 R, .slice A0 n0 c0, .slice A1 n1 c1] 32) = W1 at *
 generalize W0.heap.size = gw at *
 clear i0 i1 i2 i3 i4 i5 i6 i7 i8 i9 i10 i11 i12 i13
 replace hI := heap_ext hI hx_
 replace hP := hP.ext hx_
 replace ha := ha.ext hx_
 replace hW := hW.trans hx_
 clear hx_
 have i0 : W1.cell? ⟨g0, 0, none⟩ = some (.int .i64 T) := by simp [World.cell?, hI]
 have i1 : W1.cell? ⟨g0, 1, none⟩ = some (.int .i64 C) := by simp [World.cell?, hI]
 have i2 : W1.cell? ⟨g0, 2, none⟩ = some (.slice A q c) := by simp [World.cell?, hI]
 have i3 : W1.cell? ⟨g0, 3, none⟩ = some (.int .u64 R) := by simp [World.cell?, hI]
 have i4 : W1.cell? ⟨g0, 4, none⟩ = some (.slice A0 n0 c0) := by simp [World.cell?, hI]
 have i5 : W1.cell? ⟨g0, 5, none⟩ = some (.slice A1 n1 c1) := by simp [World.cell?, hI]
 have i6 : W1.cell? ⟨g0, 6, none⟩ = some (.int .i64 me) := by simp [World.cell?, hI]
 have i7 : W1.cell? ⟨g0, 7, none⟩ = some (.int .i64 a.kind) := by simp [World.cell?, hI]
 have i8 : W1.cell? ⟨g0, 8, none⟩ = some (.int .i64 a.cell) := by simp [World.cell?, hI]
 have i9 : W1.cell? ⟨g0, 9, none⟩ = some (.int .u64 a.a) := by simp [World.cell?, hI]
 have i10 : W1.cell? ⟨g0, 10, none⟩ = some (.int .u64 a.b) := by simp [World.cell?, hI]
 have i11 : W1.cell? ⟨g0, 11, none⟩ = some (.slice D m cd) := by simp [World.cell?, hI]
 have i12 : W1.cell? ⟨g0, 12, none⟩ = some (.slice E p ce) := by simp [World.cell?, hI]
 have i13 : W1.cell? ⟨g0, 13, none⟩ = some (.bool fail) := by simp [World.cell?, hI]
 go_upto_region 4 with (fail)
 have hx_ : Ext W1 (W1.alloc (.cells #[.int .i64 a.kind, .int .i64 a.cell, .int .u64 a.a, .int .u64 a.b, .slice D m cd, .slice E p ce] 42)) := (Below.refl _ W1).alloc (Nat.le_refl _) _
 have hA := heap_alloc_new W1 (.cells #[.int .i64 a.kind, .int .i64 a.cell, .int .u64 a.a, .int .u64 a.b, .slice D m cd, .slice E p ce] 42)
 generalize W1.alloc (.cells #[.int .i64 a.kind, .int .i64 a.cell, .int .u64 a.a, .int .u64 a.b, .slice D m cd, .slice E p ce] 42) = W1b at *
 generalize W1.heap.size = ga at *
 clear i0 i1 i2 i3 i4 i5 i6 i7 i8 i9 i10 i11 i12 i13
 replace hI := heap_ext hI hx_
 replace hB := heap_ext hB hx_
 replace hP := hP.ext hx_
 replace ha := ha.ext hx_
 replace hW := hW.trans hx_
 clear hx_
 have i0 : W1b.cell? ⟨g0, 0, none⟩ = some (.int .i64 T) := by simp [World.cell?, hI]
 have i1 : W1b.cell? ⟨g0, 1, none⟩ = some (.int .i64 C) := by simp [World.cell?, hI]
 have i2 : W1b.cell? ⟨g0, 2, none⟩ = some (.slice A q c) := by simp [World.cell?, hI]
 have i3 : W1b.cell? ⟨g0, 3, none⟩ = some (.int .u64 R) := by simp [World.cell?, hI]
 have i4 : W1b.cell? ⟨g0, 4, none⟩ = some (.slice A0 n0 c0) := by simp [World.cell?, hI]
 have i5 : W1b.cell? ⟨g0, 5, none⟩ = some (.slice A1 n1 c1) := by simp [World.cell?, hI]
 have i6 : W1b.cell? ⟨g0, 6, none⟩ = some (.int .i64 me) := by simp [World.cell?, hI]
 have i7 : W1b.cell? ⟨g0, 7, none⟩ = some (.int .i64 a.kind) := by simp [World.cell?, hI]
 have i8 : W1b.cell? ⟨g0, 8, none⟩ = some (.int .i64 a.cell) := by simp [World.cell?, hI]
 have i9 : W1b.cell? ⟨g0, 9, none⟩ = some (.int .u64 a.a) := by simp [World.cell?, hI]
 have i10 : W1b.cell? ⟨g0, 10, none⟩ = some (.int .u64 a.b) := by simp [World.cell?, hI]
 have i11 : W1b.cell? ⟨g0, 11, none⟩ = some (.slice D m cd) := by simp [World.cell?, hI]
 have i12 : W1b.cell? ⟨g0, 12, none⟩ = some (.slice E p ce) := by simp [World.cell?, hI]
 have i13 : W1b.cell? ⟨g0, 13, none⟩ = some (.bool fail) := by simp [World.cell?, hI]
 go_upto_region 5 with (fail)
 clear i0 i1 i2 i3 i4 i5 i6 i7 i8 i9 i10 i11 i12 i13
 go_wp2_with fail
 refine (shown10_any _).mono ?_
 rintro e W2 ⟨rfl, hx⟩
 replace hI := heap_ext hI hx
 replace hB := heap_ext hB hx
 replace hA := heap_ext hA hx
 replace hP := hP.ext hx
 replace ha := ha.ext hx
 replace hW := hW.trans hx
 clear hx
 have e0 : W2.cell? ⟨gw, 0, none⟩ = some (.int .i64 T) := by simp [World.cell?, hB]
 have e1 : W2.cell? ⟨gw, 1, none⟩ = some (.int .i64 C) := by simp [World.cell?, hB]
 have e2 : W2.cell? ⟨gw, 2, none⟩ = some (.slice A q c) := by simp [World.cell?, hB]
 have e3 : W2.cell? ⟨gw, 3, none⟩ = some (.int .u64 R) := by simp [World.cell?, hB]
 have e4 : W2.cell? ⟨gw, 4, none⟩ = some (.slice A0 n0 c0) := by simp [World.cell?, hB]
 have e5 : W2.cell? ⟨gw, 5, none⟩ = some (.slice A1 n1 c1) := by simp [World.cell?, hB]
 go_wp2_with fail
 refine (small_any T C A q c R A0 A1 n0 c0 n1 c1 l0 l1 me _ hP.row0 hP.row1 (by omega) hP.z0 hP.z1).mono ?_
 rintro e W3 ⟨⟨sm, rfl, hsm⟩, hx⟩
 clear e0 e1 e2 e3 e4 e5
 replace hI := heap_ext hI hx
 replace hB := heap_ext hB hx
 replace hA := heap_ext hA hx
 replace hP := hP.ext hx
 replace ha := ha.ext hx
 replace hW := hW.trans hx
 clear hx
 cases sm
 ·go_wp2
  go_ret
  exact ⟨rfl, hW⟩
 have hS := hsm rfl
 clear hsm
 obtain ⟨rfl, hnT, hmay, hqq, hF, hV⟩ := hP.small hS.right hS.sum hS.q6
 have hwd := hP.words
 have hrw := hS.right
 have hr0 := hP.row0
 have hr1 := hP.row1
 have hwq := hP.words.len
 have hq6 := hS.q6
 clear hS hP
 have f0 : W3.cell? ⟨ga, 0, none⟩ = some (.int .i64 a.kind) := by simp [World.cell?, hA]
 have f1 : W3.cell? ⟨ga, 1, none⟩ = some (.int .i64 a.cell) := by simp [World.cell?, hA]
 have f2 : W3.cell? ⟨ga, 2, none⟩ = some (.int .u64 a.a) := by simp [World.cell?, hA]
 have f3 : W3.cell? ⟨ga, 3, none⟩ = some (.int .u64 a.b) := by simp [World.cell?, hA]
 have f4 : W3.cell? ⟨ga, 4, none⟩ = some (.slice D m cd) := by simp [World.cell?, hA]
 have f5 : W3.cell? ⟨ga, 5, none⟩ = some (.slice E p ce) := by simp [World.cell?, hA]
 rcases (Decidable.em (m ≤ 500)).symm with hm5 | hm5
 ·have hm5' : (500 : Int) < (m : Int) := by omega
  go_wp2
  go_ret
  exact ⟨rfl, hW⟩
 have hm5' : ¬ (500 : Int) < (m : Int) := by omega
 by_cases h13 : a.kind = 13
 ·have h13b : (a.kind == 13) = true := by simpa using h13
  go_wp2
  go_ret
  exact ⟨rfl, hW⟩
 have h13b : (a.kind == 13) = false := by simpa using h13
 have hXr : rightX ⟨T, C, ws, R, n1, l0.map St.key, l1.map St.key⟩ = true := by
  rw [← rightW_X (R := R) hr0 hr1, hwq]; exact hrw
 clear hr0 hr1 hrw hqq hnT hmay
 generalize hX0 : (⟨T, C, ws, R, n1, l0.map St.key, l1.map St.key⟩ : WldK) = X0 at *
 have hXw : X0.ws = ws ∧ X0.T = T ∧ X0.C = C ∧ X0.n = n1 ∧ X0.R = R := by rw [← hX0]; exact ⟨rfl, rfl, rfl, rfl, rfl⟩
 clear hX0
 have hq2 : 2 ≤ q := by have := hF.ws.1; rw [hXw.1, hwq] at this; exact this
 obtain ⟨a0, rfl⟩ : ∃ a0, A = some a0 := by obtain ⟨a0, h, -⟩ := hwd.at (i := 0) (by omega); exact ⟨a0, h⟩
 go_upto_region 8 with (fail)
 clear f0 f1 f2 f3 f4 f5
 have e0 : W3.cell? ⟨gw, 0, none⟩ = some (.int .i64 T) := by simp [World.cell?, hB]
 have e1 : W3.cell? ⟨gw, 1, none⟩ = some (.int .i64 C) := by simp [World.cell?, hB]
 have e2 : W3.cell? ⟨gw, 2, none⟩ = some (.slice (some a0) q c) := by simp [World.cell?, hB]
 have e3 : W3.cell? ⟨gw, 3, none⟩ = some (.int .u64 R) := by simp [World.cell?, hB]
 have e4 : W3.cell? ⟨gw, 4, none⟩ = some (.slice A0 n1 c0) := by simp [World.cell?, hB]
 have e5 : W3.cell? ⟨gw, 5, none⟩ = some (.slice A1 n1 c1) := by simp [World.cell?, hB]
 have hWn : Ext W3 (W3.alloc (.cells #[] 26)) := (Below.refl _ W3).alloc (Nat.le_refl _) _
 have hown0 : (W3.alloc (.cells #[] 26)).ownsRow W3.heap.size 26 1 (.slice (some ⟨W3.heap.size, 0, none⟩) 0 0) 0 [] :=
  ⟨by simp, .inr ⟨_, 0, #[], rfl, Nat.le_refl _, heap_alloc_new W3 _, Nat.le_refl _, Nat.zero_le _, by simp, by simp⟩⟩
 have e2w := hWn.cell e2
 go_upto_region 9 with (at_builtin; refine wpList_append_own_any rfl (.tmp 38) (.tmp 41) _ _ rfl W3.heap.size i0 _ 1 8 Try.underlying23 hi0 hz0 hz1 hz2 rfl (by decide) _ 0 [] rfl hown0 (some a0) q c (wordsOf ws) rfl (by rw [wordsOf_length, hwq]; omega) (hwd.cells.ext hWn) hwd.none0 (wordsOf_one ws) (by simp only [maxLen]; omega) (by omega) (by simp) ?_; intro v1 w4 hown1 hb1)
 try simp only [Nat.zero_add, List.nil_append] at hown1
 have hx4 := Below.trans hWn hb1
 replace hx4 : Ext W3 w4 := hx4
 have hZ : ∃ (az : Addr) (cz : Nat), v1 = .slice (some az) q cz ∧ WordsV w4 (some az) q cz ws := by
  rcases hown1.2 with ⟨rfl, h⟩ | ⟨g, cap, cur, rfl, h4⟩
  ·omega
  ·subst hwq
   have := OwnW.v (l := ws) hown1 hwd.rng
   exact ⟨_, _, rfl, this⟩
 obtain ⟨az, cz, rfl, hwz⟩ := hZ
 clear e2w hown1 hown0 hWn hb1 hbs hi0 hz0 hz1 hz2
 clear e0 e1 e2 e3 e4 e5
 replace hI := heap_ext hI hx4
 replace hB := heap_ext hB hx4
 replace hA := heap_ext hA hx4
 replace ha := ha.ext hx4
 replace hV := hV.ext hx4
 replace hwd := hwd.ext hx4
 replace hW := hW.trans hx4
 clear hx4
 have e0 : w4.cell? ⟨gw, 0, none⟩ = some (.int .i64 T) := by simp [World.cell?, hB]
 have e1 : w4.cell? ⟨gw, 1, none⟩ = some (.int .i64 C) := by simp [World.cell?, hB]
 have e2 : w4.cell? ⟨gw, 2, none⟩ = some (.slice (some a0) q c) := by simp [World.cell?, hB]
 have e3 : w4.cell? ⟨gw, 3, none⟩ = some (.int .u64 R) := by simp [World.cell?, hB]
 have e4 : w4.cell? ⟨gw, 4, none⟩ = some (.slice A0 n1 c0) := by simp [World.cell?, hB]
 have e5 : w4.cell? ⟨gw, 5, none⟩ = some (.slice A1 n1 c1) := by simp [World.cell?, hB]
 have f0 : w4.cell? ⟨ga, 0, none⟩ = some (.int .i64 a.kind) := by simp [World.cell?, hA]
 have f1 : w4.cell? ⟨ga, 1, none⟩ = some (.int .i64 a.cell) := by simp [World.cell?, hA]
 have f2 : w4.cell? ⟨ga, 2, none⟩ = some (.int .u64 a.a) := by simp [World.cell?, hA]
 have f3 : w4.cell? ⟨ga, 3, none⟩ = some (.int .u64 a.b) := by simp [World.cell?, hA]
 have f4 : w4.cell? ⟨ga, 4, none⟩ = some (.slice D m cd) := by simp [World.cell?, hA]
 have f5 : w4.cell? ⟨ga, 5, none⟩ = some (.slice E p ce) := by simp [World.cell?, hA]
 go_wp2_with fail
 refine (do_all _ _ X0 me a fail _ hV ha (hF.le_ (by unfold useM; split <;> omega))).mono ?_
 rintro e u1 ⟨v1, r1, rfl, hV1, hR1, hu_⟩
 generalize hX1 : doK X0 me a fail = X1 at hV1
 generalize hY1 : doR X0 a fail = R1 at hR1
 have hX1 := Lib.hid hX1
 have hY1 := Lib.hid hY1
 have hV1_ := hV1
 have hR1_ := hR1
 obtain ⟨xA1, xq1, xc1, xB1, xC1, xb1, xd1, rfl, hw1, hd1⟩ := hV1_
 obtain ⟨yS1, ys1, yt1, rfl, hs1⟩ := hR1_
 clear e0 e1 e2 e3 e4 e5 f0 f1 f2 f3 f4 f5
 replace hI := heap_ext hI hu_
 replace hB := heap_ext hB hu_
 replace hA := heap_ext hA hu_
 replace ha := ha.ext hu_
 replace hV := hV.ext hu_
 replace hwd := hwd.ext hu_
 replace hwz := hwz.ext hu_
 replace hW := hW.trans hu_
 clear hu_
 go_upto_region 10 with (fail)
 obtain ⟨hx_, hbx1, hrx1⟩ := two_boxes7 u1 (.cells #[.int .i64 X1.T, .int .i64 X1.C, .slice xA1 xq1 xc1, .int .u64 X1.R, .slice xB1 X1.n xb1, .slice xC1 X1.n xd1] 32) (.cells #[.int .u64 R1.N, .slice yS1 ys1 yt1, .bool R1.fail] 51)
 generalize (u1.alloc (.cells #[.int .i64 X1.T, .int .i64 X1.C, .slice xA1 xq1 xc1, .int .u64 X1.R, .slice xB1 X1.n xb1, .slice xC1 X1.n xd1] 32)).alloc (.cells #[.int .u64 R1.N, .slice yS1 ys1 yt1, .bool R1.fail] 51) = U1 at *
 generalize u1.heap.size = g1 at *
 replace hI := heap_ext hI hx_
 replace hB := heap_ext hB hx_
 replace hA := heap_ext hA hx_
 replace ha := ha.ext hx_
 replace hV := hV.ext hx_
 replace hwd := hwd.ext hx_
 replace hwz := hwz.ext hx_
 replace hV1 := hV1.ext hx_
 replace hR1 := hR1.ext hx_
 replace hw1 := hw1.ext hx_
 replace hs1 := hs1.ext hx_
 replace hW := hW.trans hx_
 clear hx_
 obtain ⟨p1, p2, p3, p4, p5, p6⟩ := one_plain hX1.out h13
 obtain ⟨y1, y2⟩ := one_res hY1.out h13
 have hXr1 : rightX X1 = true := hX1.out ▸ rightX_do hXr
 obtain ⟨hXw, hXT, hXC, hXn, hXR⟩ := hXw
 have hlq : xq1 = q := by rw [← hw1.len, p4, hXw, hwq]
 subst hlq
 rw [hXw] at p5
 clear hX1 hY1 hXr hwq hF
 rw [p1, p2, p3, hXT, hXC, hXn] at hbx1 hV1
 clear p1 p2 hXT hXC hXn hXR
 obtain ⟨a1, rfl⟩ : ∃ a1, xA1 = some a1 := by obtain ⟨a1, h, -⟩ := hw1.at (i := 0) (by omega); exact ⟨a1, h⟩
 have x0 : U1.cell? ⟨g1, 0, none⟩ = some (.int .i64 T) := by simp [World.cell?, hbx1]
 have x1 : U1.cell? ⟨g1, 1, none⟩ = some (.int .i64 C) := by simp [World.cell?, hbx1]
 have x2 : U1.cell? ⟨g1, 2, none⟩ = some (.slice (some a1) xq1 xc1) := by simp [World.cell?, hbx1]
 have x3 : U1.cell? ⟨g1, 3, none⟩ = some (.int .u64 X1.R) := by simp [World.cell?, hbx1]
 have x4 : U1.cell? ⟨g1, 4, none⟩ = some (.slice xB1 n1 xb1) := by simp [World.cell?, hbx1]
 have x5 : U1.cell? ⟨g1, 5, none⟩ = some (.slice xC1 n1 xd1) := by simp [World.cell?, hbx1]
 have e0 : U1.cell? ⟨gw, 0, none⟩ = some (.int .i64 T) := by simp [World.cell?, hB]
 have e1 : U1.cell? ⟨gw, 1, none⟩ = some (.int .i64 C) := by simp [World.cell?, hB]
 have e2 : U1.cell? ⟨gw, 2, none⟩ = some (.slice (some a0) xq1 c) := by simp [World.cell?, hB]
 have e3 : U1.cell? ⟨gw, 3, none⟩ = some (.int .u64 R) := by simp [World.cell?, hB]
 have e4 : U1.cell? ⟨gw, 4, none⟩ = some (.slice A0 n1 c0) := by simp [World.cell?, hB]
 have e5 : U1.cell? ⟨gw, 5, none⟩ = some (.slice A1 n1 c1) := by simp [World.cell?, hB]
 go_upto_region 13 with (fail)
 clear x0 x1 x2 x3 x4 x5 e0 e1 e2 e3 e4 e5
 go_loopw [11] (fun iv wr => ∃ j : Nat, iv = .int .i64 (j : Int) ∧ j ≤ xq1 ∧ Ext U1 wr) (fun iv _ => xq1 - (intOf iv).toNat)
 case atStart => exact ⟨0, rfl, Nat.zero_le _, Ext.refl _⟩
 case round =>
  obtain ⟨j, rfl, hj, hxr⟩ := hrel
  rcases Nat.lt_or_ge j xq1 with hjn | hjn
  ·obtain ⟨b0, e0', hb0, -⟩ := hwd.at hjn
   obtain rfl := Option.some.inj e0'
   obtain ⟨b1, e1', hb1, -⟩ := hw1.at hjn
   obtain rfl := Option.some.inj e1'
   obtain ⟨b2, e2', hb2, -⟩ := hwz.at hjn
   obtain rfl := Option.some.inj e2'
   have hz := p5 j
   generalize ws.getD j 0 = z at *
   generalize X1.ws.getD j 0 = y at *
   have hX : ∀ wx, Ext wr wx → wx.cell? ⟨gw, 2, none⟩ = some (.slice (some a0) xq1 c) ∧ wx.cell? ⟨g1, 2, none⟩ = some (.slice (some a1) xq1 xc1) ∧ wx.cell? ⟨ga, 0, none⟩ = some (.int .i64 a.kind) ∧ wx.cell? ⟨ga, 1, none⟩ = some (.int .i64 a.cell) ∧ wx.cell? (a0.add j) = some (.int .u64 z) ∧ wx.cell? (a1.add j) = some (.int .u64 y) ∧ wx.cell? (az.add j) = some (.int .u64 z) := fun wx hx =>
    ⟨(hxr.trans hx).cell (by simp [World.cell?, hB]), (hxr.trans hx).cell (by simp [World.cell?, hbx1]), (hxr.trans hx).cell (by simp [World.cell?, hA]), (hxr.trans hx).cell (by simp [World.cell?, hA]), (hxr.trans hx).cell hb0, (hxr.trans hx).cell hb1, (hxr.trans hx).cell hb2⟩
   clear hb0 hb1 hb2
   by_cases hzy : y = z
   ·subst hzy
    go_upto_region 15 with (fail)
    refine' wp_region_sure_all ⟨((some 82, [], none) :: (some 83, [0], none) :: (some 84, [1], none) :: (some 85, [], none) :: (some 86, [2, 3], none) :: (some 87, [4], none) :: (some 88, [], none) :: (some 89, [], none) :: (some 90, [6, 7], none) :: (some 91, [8], none) :: (some 92, [5, 9], none) :: (some 93, [10], none) :: (some 94, [11], some (11, false)) :: (some 95, [12, 11], some (11, false)) :: (some 96, [13, 11], some (11, false)) :: (some 97, [11], some (11, false)) :: (some 98, [14, 15, 11], some (11, false)) :: (some 99, [16, 11], some (11, false)) :: (some 100, [11], some (11, false)) :: (some 101, [11], some (11, false)) :: (some 102, [18, 19, 11], some (11, false)) :: (some 103, [20, 11], some (11, false)) :: (some 104, [17, 21, 11], some (11, false)) :: (some 105, [22, 11, 11], some (11, false)) :: (some 106, [23], some (23, true)) :: (some 107, [23], some (23, true)) :: (some 108, [25, 23], some (23, true)) :: (some 109, [24, 26, 23], some (23, true)) :: (some 110, [27, 23, 23], some (23, true)) :: (some 111, [28], some (28, false)) :: (some 112, [29, 28], some (28, false)) :: (some 113, [30, 28], some (28, false)) :: (some 114, [28, 31, 23], some (23, true)) :: (some 115, [23, 32, 11], some (11, false)) :: (some 116, [11, 33], none) :: []), (0 :: 1 :: 3 :: 0 :: 15 :: 31 :: 0 :: 0 :: 192 :: 448 :: 1023 :: 2047 :: 4095 :: 8191 :: 16383 :: 4095 :: 65535 :: 131071 :: 4095 :: 4095 :: 790527 :: 1839103 :: 4194303 :: 8388607 :: 16777215 :: 16777215 :: 50331647 :: 134217727 :: 268435455 :: 536870911 :: 1073741823 :: 2147483647 :: 4294967295 :: 8589934591 :: 17179869183 :: []), (true :: true :: true :: true :: true :: true :: true :: true :: true :: true :: true :: true :: true :: true :: true :: true :: true :: true :: true :: true :: true :: true :: true :: true :: true :: true :: true :: true :: true :: true :: true :: true :: true :: true :: true :: []), [], 0⟩ 35 165 ((0, 82) :: (1, 83) :: (2, 84) :: (3, 85) :: (4, 86) :: (5, 87) :: (6, 88) :: (7, 89) :: (8, 90) :: (9, 91) :: (10, 92) :: (11, 93) :: (12, 94) :: (13, 95) :: (14, 96) :: (15, 97) :: (16, 98) :: (17, 99) :: (18, 100) :: (19, 101) :: (20, 102) :: (21, 103) :: (22, 104) :: (23, 105) :: (24, 106) :: (25, 107) :: (26, 108) :: (27, 109) :: (28, 110) :: (29, 111) :: (30, 112) :: (31, 113) :: (32, 114) :: (33, 115) :: (34, 116) :: []) ((0, 82) :: (1, 83) :: (2, 84) :: (3, 85) :: (4, 86) :: (5, 87) :: (6, 88) :: (7, 89) :: (8, 90) :: (9, 91) :: (10, 92) :: (11, 93) :: (12, 94) :: (13, 95) :: (14, 96) :: (15, 97) :: (16, 98) :: (17, 99) :: (18, 100) :: (19, 101) :: (20, 102) :: (21, 103) :: (22, 104) :: (23, 105) :: (24, 106) :: (25, 107) :: (26, 108) :: (27, 109) :: (28, 110) :: (29, 111) :: (30, 112) :: (31, 113) :: (32, 114) :: (33, 115) :: (34, 116) :: []) (.det _ :: .det _ :: .det _ :: .det _ :: .det _ :: .det _ :: .det _ :: .det _ :: .det _ :: .det _ :: .det _ :: .det _ :: .det _ :: .det _ :: .det _ :: .det _ :: .det _ :: .det _ :: .det _ :: .det _ :: .det _ :: .det _ :: .det _ :: .det _ :: .det _ :: .det _ :: .det _ :: .det _ :: .det _ :: .det _ :: .det _ :: .det _ :: .det _ :: .det _ :: .det _ :: []) (by kernel_rfl) (by kernel_rfl) (by kernel_rfl) rfl (by kernel_rfl) (by kernel_rfl) rfl (by kernel_rfl) ?hone ?hend
    case hone =>
     intro CS frS VS hCS ha hV
     have qs3 := slot_val (t := 3) ha rfl
     simp only [List.getElem_toArray, List.getElem_cons_succ, List.getElem_cons_zero] at qs3
     have qs5 := slot_val (t := 5) ha rfl
     simp only [List.getElem_toArray, List.getElem_cons_succ, List.getElem_cons_zero] at qs5
     have qs8 := slot_val (t := 8) ha rfl
     simp only [List.getElem_toArray, List.getElem_cons_succ, List.getElem_cons_zero] at qs8
     have qs9 := slot_val (t := 9) ha rfl
     simp only [List.getElem_toArray, List.getElem_cons_succ, List.getElem_cons_zero] at qs9
     have qs11 := slot_val (t := 11) ha rfl
     simp only [List.getElem_toArray, List.getElem_cons_succ, List.getElem_cons_zero] at qs11
     have HCS := Lib.hid hCS
     have HVS := Lib.hid hV
     clear ha hCS hV
     refine sure_det (js := []) (ts := [3]) (gd := none) (place_at HVS.out (k := 0) rfl) (by rw [HCS.out]; kernel_rfl) ?_ ?_
     ·intro wx hx ρ hρ hs hf; have hρc := hρ.const; have hρf := hρ.func
      obtain ⟨fx3, -⟩ := hf; rw [qs3] at fx3
      clear hs
      clear HCS HVS qs3 qs5 qs8 qs9 qs11
      refine run_plain ?_
      unfold runs
      go_simp
      exact detK.mk
     refine sure_det (js := [(0, 82)]) (ts := []) (gd := none) (place_at HVS.out (k := 1) rfl) (by rw [HCS.out]; kernel_rfl) ?_ ?_
     ·intro wx hx ρ hρ hs hf; have hρc := hρ.const; have hρf := hρ.func; obtain ⟨sn0, -⟩ := hs; rw [place_at HVS.out (k := 0) rfl] at sn0; replace sn0 : ρ (.tmp 82) = _ := sn0
      clear hf
      clear HCS HVS qs3 qs5 qs8 qs9 qs11
      refine run_plain ?_
      unfold runs
      go_simp
      exact detK.mk
     refine sure_det (js := [(1, 83)]) (ts := []) (gd := none) (place_at HVS.out (k := 2) rfl) (by rw [HCS.out]; kernel_rfl) ?_ ?_
     ·intro wx hx ρ hρ hs hf; have hρc := hρ.const; have hρf := hρ.func; obtain ⟨sn1, -⟩ := hs; rw [place_at HVS.out (k := 1) rfl] at sn1; replace sn1 : ρ (.tmp 83) = _ := sn1
      clear hf
      clear HCS HVS qs3 qs5 qs8 qs9 qs11
      refine run_plain ?_
      obtain ⟨k0, k1, k2, k3, k4, k5, k6⟩ := hX wx hx.drawn
      unfold runs
      go_simp
      exact detK.mk
     refine sure_det (js := []) (ts := [11]) (gd := none) (place_at HVS.out (k := 3) rfl) (by rw [HCS.out]; kernel_rfl) ?_ ?_
     ·intro wx hx ρ hρ hs hf; have hρc := hρ.const; have hρf := hρ.func
      obtain ⟨fx11, -⟩ := hf; rw [qs11] at fx11
      clear hs
      clear HCS HVS qs3 qs5 qs8 qs9 qs11
      refine run_plain ?_
      refine op_move rfl fx11 ?_
      exact detK.mk
     refine sure_det (js := [(2, 84), (3, 85)]) (ts := []) (gd := none) (place_at HVS.out (k := 4) rfl) (by rw [HCS.out]; kernel_rfl) ?_ ?_
     ·intro wx hx ρ hρ hs hf; have hρc := hρ.const; have hρf := hρ.func; obtain ⟨sn2, sn3, -⟩ := hs; rw [place_at HVS.out (k := 2) rfl] at sn2; replace sn2 : ρ (.tmp 84) = _ := sn2; rw [place_at HVS.out (k := 3) rfl] at sn3; replace sn3 : ρ (.tmp 85) = _ := sn3
      clear hf
      clear HCS HVS qs3 qs5 qs8 qs9 qs11
      refine run_plain ?_
      unfold runs
      go_simp
      exact detK.mk
     refine sure_det (js := [(4, 86)]) (ts := []) (gd := none) (place_at HVS.out (k := 5) rfl) (by rw [HCS.out]; kernel_rfl) ?_ ?_
     ·intro wx hx ρ hρ hs hf; have hρc := hρ.const; have hρf := hρ.func; obtain ⟨sn4, -⟩ := hs; rw [place_at HVS.out (k := 4) rfl] at sn4; replace sn4 : ρ (.tmp 86) = _ := sn4
      clear hf
      clear HCS HVS qs3 qs5 qs8 qs9 qs11
      refine run_plain ?_
      obtain ⟨k0, k1, k2, k3, k4, k5, k6⟩ := hX wx hx.drawn
      unfold runs
      go_simp
      exact detK.mk
     refine sure_det (js := []) (ts := [8]) (gd := none) (place_at HVS.out (k := 6) rfl) (by rw [HCS.out]; kernel_rfl) ?_ ?_
     ·intro wx hx ρ hρ hs hf; have hρc := hρ.const; have hρf := hρ.func
      obtain ⟨fx8, -⟩ := hf; rw [qs8] at fx8
      clear hs
      clear HCS HVS qs3 qs5 qs8 qs9 qs11
      refine run_plain ?_
      refine op_move rfl fx8 ?_
      exact detK.mk
     refine sure_det (js := []) (ts := [11]) (gd := none) (place_at HVS.out (k := 7) rfl) (by rw [HCS.out]; kernel_rfl) ?_ ?_
     ·intro wx hx ρ hρ hs hf; have hρc := hρ.const; have hρf := hρ.func
      obtain ⟨fx11, -⟩ := hf; rw [qs11] at fx11
      clear hs
      clear HCS HVS qs3 qs5 qs8 qs9 qs11
      refine run_plain ?_
      refine op_move rfl fx11 ?_
      exact detK.mk
     refine sure_det (js := [(6, 88), (7, 89)]) (ts := []) (gd := none) (place_at HVS.out (k := 8) rfl) (by rw [HCS.out]; kernel_rfl) ?_ ?_
     ·intro wx hx ρ hρ hs hf; have hρc := hρ.const; have hρf := hρ.func; obtain ⟨sn6, sn7, -⟩ := hs; rw [place_at HVS.out (k := 6) rfl] at sn6; replace sn6 : ρ (.tmp 88) = _ := sn6; rw [place_at HVS.out (k := 7) rfl] at sn7; replace sn7 : ρ (.tmp 89) = _ := sn7
      clear hf
      clear HCS HVS qs3 qs5 qs8 qs9 qs11
      refine run_plain ?_
      unfold runs
      go_simp
      exact detK.mk
     refine sure_det (js := [(8, 90)]) (ts := []) (gd := none) (place_at HVS.out (k := 9) rfl) (by rw [HCS.out]; kernel_rfl) ?_ ?_
     ·intro wx hx ρ hρ hs hf; have hρc := hρ.const; have hρf := hρ.func; obtain ⟨sn8, -⟩ := hs; rw [place_at HVS.out (k := 8) rfl] at sn8; replace sn8 : ρ (.tmp 90) = _ := sn8
      clear hf
      clear HCS HVS qs3 qs5 qs8 qs9 qs11
      refine run_plain ?_
      obtain ⟨k0, k1, k2, k3, k4, k5, k6⟩ := hX wx hx.drawn
      unfold runs
      go_simp
      exact detK.mk
     refine sure_det (js := [(5, 87), (9, 91)]) (ts := []) (gd := none) (place_at HVS.out (k := 10) rfl) (by rw [HCS.out]; kernel_rfl) ?_ ?_
     ·intro wx hx ρ hρ hs hf; have hρc := hρ.const; have hρf := hρ.func; obtain ⟨sn5, sn9, -⟩ := hs; rw [place_at HVS.out (k := 5) rfl] at sn5; replace sn5 : ρ (.tmp 87) = _ := sn5; rw [place_at HVS.out (k := 9) rfl] at sn9; replace sn9 : ρ (.tmp 91) = _ := sn9
      clear hf
      clear HCS HVS qs3 qs5 qs8 qs9 qs11
      refine run_plain ?_
      unfold runs
      go_simp
      exact detK.mk
     refine sure_det (js := [(10, 92)]) (ts := []) (gd := none) (place_at HVS.out (k := 11) rfl) (by rw [HCS.out]; kernel_rfl) ?_ ?_
     ·intro wx hx ρ hρ hs hf; have hρc := hρ.const; have hρf := hρ.func; obtain ⟨sn10, -⟩ := hs; rw [place_at HVS.out (k := 10) rfl] at sn10; replace sn10 : ρ (.tmp 92) = _ := sn10
      clear hf
      clear HCS HVS qs3 qs5 qs8 qs9 qs11
      refine run_plain ?_
      refine op_move rfl sn10 ?_
      exact detK.mk
     refine sure_det (js := [(11, 93)]) (ts := [9]) (gd := (some (93, false))) (place_at HVS.out (k := 12) rfl) (by rw [HCS.out]; kernel_rfl) ?_ ?_
     ·intro wx hx ρ hρ hs hf; have hρc := hρ.const; have hρf := hρ.func; obtain ⟨sn11, -⟩ := hs
      obtain ⟨fx9, -⟩ := hf; rw [qs9] at fx9; rw [place_at HVS.out (k := 11) rfl] at sn11; replace sn11 : ρ (.tmp 93) = _ := sn11
      clear HCS HVS qs3 qs5 qs8 qs9 qs11
      first
       | (refine run_passed sn11 ?_; exact detK.mk)
       | (refine run_undef sn11 ?_; exact detK.mk)
       | (refine run_guarded sn11 ?_; unfold runs; go_simp; exact detK.mk)
     refine sure_det (js := [(12, 94), (11, 93)]) (ts := []) (gd := (some (93, false))) (place_at HVS.out (k := 13) rfl) (by rw [HCS.out]; kernel_rfl) ?_ ?_
     ·intro wx hx ρ hρ hs hf; have hρc := hρ.const; have hρf := hρ.func; obtain ⟨sn12, sn11, -⟩ := hs; rw [place_at HVS.out (k := 12) rfl] at sn12; replace sn12 : ρ (.tmp 94) = _ := sn12; rw [place_at HVS.out (k := 11) rfl] at sn11; replace sn11 : ρ (.tmp 93) = _ := sn11
      clear hf
      clear HCS HVS qs3 qs5 qs8 qs9 qs11
      first
       | (refine run_passed sn11 ?_; exact detK.mk)
       | (refine run_undef sn11 ?_; exact detK.mk)
       | (refine run_guarded sn11 ?_; unfold runs; go_simp; exact detK.mk)
     refine sure_det (js := [(13, 95), (11, 93)]) (ts := []) (gd := (some (93, false))) (place_at HVS.out (k := 14) rfl) (by rw [HCS.out]; kernel_rfl) ?_ ?_
     ·intro wx hx ρ hρ hs hf; have hρc := hρ.const; have hρf := hρ.func; obtain ⟨sn13, sn11, -⟩ := hs; rw [place_at HVS.out (k := 13) rfl] at sn13; replace sn13 : ρ (.tmp 95) = _ := sn13; rw [place_at HVS.out (k := 11) rfl] at sn11; replace sn11 : ρ (.tmp 93) = _ := sn11
      clear hf
      clear HCS HVS qs3 qs5 qs8 qs9 qs11
      first
       | (refine run_passed sn11 ?_; exact detK.mk)
       | (refine run_undef sn11 ?_; exact detK.mk)
       | (refine run_guarded sn11 ?_; obtain ⟨k0, k1, k2, k3, k4, k5, k6⟩ := hX wx hx.drawn; unfold runs; go_simp; exact detK.mk)
     refine sure_det (js := [(11, 93)]) (ts := [11]) (gd := (some (93, false))) (place_at HVS.out (k := 15) rfl) (by rw [HCS.out]; kernel_rfl) ?_ ?_
     ·intro wx hx ρ hρ hs hf; have hρc := hρ.const; have hρf := hρ.func; obtain ⟨sn11, -⟩ := hs
      obtain ⟨fx11, -⟩ := hf; rw [qs11] at fx11; rw [place_at HVS.out (k := 11) rfl] at sn11; replace sn11 : ρ (.tmp 93) = _ := sn11
      clear HCS HVS qs3 qs5 qs8 qs9 qs11
      first
       | (refine run_passed sn11 ?_; exact detK.mk)
       | (refine run_undef sn11 ?_; exact detK.mk)
       | (refine run_guarded sn11 ?_; refine op_move rfl fx11 ?_; exact detK.mk)
     refine sure_det (js := [(14, 96), (15, 97), (11, 93)]) (ts := []) (gd := (some (93, false))) (place_at HVS.out (k := 16) rfl) (by rw [HCS.out]; kernel_rfl) ?_ ?_
     ·intro wx hx ρ hρ hs hf; have hρc := hρ.const; have hρf := hρ.func; obtain ⟨sn14, sn15, sn11, -⟩ := hs; rw [place_at HVS.out (k := 14) rfl] at sn14; replace sn14 : ρ (.tmp 96) = _ := sn14; rw [place_at HVS.out (k := 15) rfl] at sn15; replace sn15 : ρ (.tmp 97) = _ := sn15; rw [place_at HVS.out (k := 11) rfl] at sn11; replace sn11 : ρ (.tmp 93) = _ := sn11
      clear hf
      clear HCS HVS qs3 qs5 qs8 qs9 qs11
      first
       | (refine run_passed sn11 ?_; exact detK.mk)
       | (refine run_undef sn11 ?_; exact detK.mk)
       | (refine run_guarded sn11 ?_; unfold runs; go_simp; exact detK.mk)
     refine sure_det (js := [(16, 98), (11, 93)]) (ts := []) (gd := (some (93, false))) (place_at HVS.out (k := 17) rfl) (by rw [HCS.out]; kernel_rfl) ?_ ?_
     ·intro wx hx ρ hρ hs hf; have hρc := hρ.const; have hρf := hρ.func; obtain ⟨sn16, sn11, -⟩ := hs; rw [place_at HVS.out (k := 16) rfl] at sn16; replace sn16 : ρ (.tmp 98) = _ := sn16; rw [place_at HVS.out (k := 11) rfl] at sn11; replace sn11 : ρ (.tmp 93) = _ := sn11
      clear hf
      clear HCS HVS qs3 qs5 qs8 qs9 qs11
      first
       | (refine run_passed sn11 ?_; exact detK.mk)
       | (refine run_undef sn11 ?_; exact detK.mk)
       | (refine run_guarded sn11 ?_; obtain ⟨k0, k1, k2, k3, k4, k5, k6⟩ := hX wx hx.drawn; unfold runs; go_simp; exact detK.mk)
     refine sure_det (js := [(11, 93)]) (ts := [8]) (gd := (some (93, false))) (place_at HVS.out (k := 18) rfl) (by rw [HCS.out]; kernel_rfl) ?_ ?_
     ·intro wx hx ρ hρ hs hf; have hρc := hρ.const; have hρf := hρ.func; obtain ⟨sn11, -⟩ := hs
      obtain ⟨fx8, -⟩ := hf; rw [qs8] at fx8; rw [place_at HVS.out (k := 11) rfl] at sn11; replace sn11 : ρ (.tmp 93) = _ := sn11
      clear HCS HVS qs3 qs5 qs8 qs9 qs11
      first
       | (refine run_passed sn11 ?_; exact detK.mk)
       | (refine run_undef sn11 ?_; exact detK.mk)
       | (refine run_guarded sn11 ?_; refine op_move rfl fx8 ?_; exact detK.mk)
     refine sure_det (js := [(11, 93)]) (ts := [11]) (gd := (some (93, false))) (place_at HVS.out (k := 19) rfl) (by rw [HCS.out]; kernel_rfl) ?_ ?_
     ·intro wx hx ρ hρ hs hf; have hρc := hρ.const; have hρf := hρ.func; obtain ⟨sn11, -⟩ := hs
      obtain ⟨fx11, -⟩ := hf; rw [qs11] at fx11; rw [place_at HVS.out (k := 11) rfl] at sn11; replace sn11 : ρ (.tmp 93) = _ := sn11
      clear HCS HVS qs3 qs5 qs8 qs9 qs11
      first
       | (refine run_passed sn11 ?_; exact detK.mk)
       | (refine run_undef sn11 ?_; exact detK.mk)
       | (refine run_guarded sn11 ?_; refine op_move rfl fx11 ?_; exact detK.mk)
     refine sure_det (js := [(18, 100), (19, 101), (11, 93)]) (ts := []) (gd := (some (93, false))) (place_at HVS.out (k := 20) rfl) (by rw [HCS.out]; kernel_rfl) ?_ ?_
     ·intro wx hx ρ hρ hs hf; have hρc := hρ.const; have hρf := hρ.func; obtain ⟨sn18, sn19, sn11, -⟩ := hs; rw [place_at HVS.out (k := 18) rfl] at sn18; replace sn18 : ρ (.tmp 100) = _ := sn18; rw [place_at HVS.out (k := 19) rfl] at sn19; replace sn19 : ρ (.tmp 101) = _ := sn19; rw [place_at HVS.out (k := 11) rfl] at sn11; replace sn11 : ρ (.tmp 93) = _ := sn11
      clear hf
      clear HCS HVS qs3 qs5 qs8 qs9 qs11
      first
       | (refine run_passed sn11 ?_; exact detK.mk)
       | (refine run_undef sn11 ?_; exact detK.mk)
       | (refine run_guarded sn11 ?_; unfold runs; go_simp; exact detK.mk)
     refine sure_det (js := [(20, 102), (11, 93)]) (ts := []) (gd := (some (93, false))) (place_at HVS.out (k := 21) rfl) (by rw [HCS.out]; kernel_rfl) ?_ ?_
     ·intro wx hx ρ hρ hs hf; have hρc := hρ.const; have hρf := hρ.func; obtain ⟨sn20, sn11, -⟩ := hs; rw [place_at HVS.out (k := 20) rfl] at sn20; replace sn20 : ρ (.tmp 102) = _ := sn20; rw [place_at HVS.out (k := 11) rfl] at sn11; replace sn11 : ρ (.tmp 93) = _ := sn11
      clear hf
      clear HCS HVS qs3 qs5 qs8 qs9 qs11
      first
       | (refine run_passed sn11 ?_; exact detK.mk)
       | (refine run_undef sn11 ?_; exact detK.mk)
       | (refine run_guarded sn11 ?_; obtain ⟨k0, k1, k2, k3, k4, k5, k6⟩ := hX wx hx.drawn; unfold runs; go_simp; exact detK.mk)
     refine sure_det (js := [(17, 99), (21, 103), (11, 93)]) (ts := []) (gd := (some (93, false))) (place_at HVS.out (k := 22) rfl) (by rw [HCS.out]; kernel_rfl) ?_ ?_
     ·intro wx hx ρ hρ hs hf; have hρc := hρ.const; have hρf := hρ.func; obtain ⟨sn17, sn21, sn11, -⟩ := hs; rw [place_at HVS.out (k := 17) rfl] at sn17; replace sn17 : ρ (.tmp 99) = _ := sn17; rw [place_at HVS.out (k := 21) rfl] at sn21; replace sn21 : ρ (.tmp 103) = _ := sn21; rw [place_at HVS.out (k := 11) rfl] at sn11; replace sn11 : ρ (.tmp 93) = _ := sn11
      clear hf
      clear HCS HVS qs3 qs5 qs8 qs9 qs11
      first
       | (refine run_passed sn11 ?_; exact detK.mk)
       | (refine run_undef sn11 ?_; exact detK.mk)
       | (refine run_guarded sn11 ?_; unfold runs; go_simp; exact detK.mk)
     refine sure_det (js := [(22, 104), (11, 93)]) (ts := []) (gd := (some (93, false))) (place_at HVS.out (k := 23) rfl) (by rw [HCS.out]; kernel_rfl) ?_ ?_
     ·intro wx hx ρ hρ hs hf; have hρc := hρ.const; have hρf := hρ.func; obtain ⟨sn22, sn11, -⟩ := hs; rw [place_at HVS.out (k := 22) rfl] at sn22; replace sn22 : ρ (.tmp 104) = _ := sn22; rw [place_at HVS.out (k := 11) rfl] at sn11; replace sn11 : ρ (.tmp 93) = _ := sn11
      clear hf
      clear HCS HVS qs3 qs5 qs8 qs9 qs11
      first
       | (refine run_passed sn11 ?_; exact detK.mk)
       | (refine run_undef sn11 ?_; exact detK.mk)
       | (refine run_guarded sn11 ?_; refine op_move rfl sn22 ?_; exact detK.mk)
     refine sure_det (js := [(23, 105)]) (ts := [11]) (gd := (some (105, true))) (place_at HVS.out (k := 24) rfl) (by rw [HCS.out]; kernel_rfl) ?_ ?_
     ·intro wx hx ρ hρ hs hf; have hρc := hρ.const; have hρf := hρ.func; obtain ⟨sn23, -⟩ := hs
      obtain ⟨fx11, -⟩ := hf; rw [qs11] at fx11; rw [place_at HVS.out (k := 23) rfl] at sn23; replace sn23 : ρ (.tmp 105) = _ := sn23
      clear HCS HVS qs3 qs5 qs8 qs9 qs11
      first
       | (refine run_passed sn23 ?_; exact detK.mk)
       | (refine run_undef sn23 ?_; exact detK.mk)
       | (refine run_guarded sn23 ?_; refine op_move rfl fx11 ?_; exact detK.mk)
     refine sure_det (js := [(23, 105)]) (ts := [5]) (gd := (some (105, true))) (place_at HVS.out (k := 25) rfl) (by rw [HCS.out]; kernel_rfl) ?_ ?_
     ·intro wx hx ρ hρ hs hf; have hρc := hρ.const; have hρf := hρ.func; obtain ⟨sn23, -⟩ := hs
      obtain ⟨fx5, -⟩ := hf; rw [qs5] at fx5; rw [place_at HVS.out (k := 23) rfl] at sn23; replace sn23 : ρ (.tmp 105) = _ := sn23
      clear HCS HVS qs3 qs5 qs8 qs9 qs11
      first
       | (refine run_passed sn23 ?_; exact detK.mk)
       | (refine run_undef sn23 ?_; exact detK.mk)
       | (refine run_guarded sn23 ?_; unfold runs; go_simp; exact detK.mk)
     refine sure_det (js := [(25, 107), (23, 105)]) (ts := []) (gd := (some (105, true))) (place_at HVS.out (k := 26) rfl) (by rw [HCS.out]; kernel_rfl) ?_ ?_
     ·intro wx hx ρ hρ hs hf; have hρc := hρ.const; have hρf := hρ.func; obtain ⟨sn25, sn23, -⟩ := hs; rw [place_at HVS.out (k := 25) rfl] at sn25; replace sn25 : ρ (.tmp 107) = _ := sn25; rw [place_at HVS.out (k := 23) rfl] at sn23; replace sn23 : ρ (.tmp 105) = _ := sn23
      clear hf
      clear HCS HVS qs3 qs5 qs8 qs9 qs11
      first
       | (refine run_passed sn23 ?_; exact detK.mk)
       | (refine run_undef sn23 ?_; exact detK.mk)
       | (refine run_guarded sn23 ?_; obtain ⟨k0, k1, k2, k3, k4, k5, k6⟩ := hX wx hx.drawn; unfold runs; go_simp; exact detK.mk)
     refine sure_det (js := [(24, 106), (26, 108), (23, 105)]) (ts := []) (gd := (some (105, true))) (place_at HVS.out (k := 27) rfl) (by rw [HCS.out]; kernel_rfl) ?_ ?_
     ·intro wx hx ρ hρ hs hf; have hρc := hρ.const; have hρf := hρ.func; obtain ⟨sn24, sn26, sn23, -⟩ := hs; rw [place_at HVS.out (k := 24) rfl] at sn24; replace sn24 : ρ (.tmp 106) = _ := sn24; rw [place_at HVS.out (k := 26) rfl] at sn26; replace sn26 : ρ (.tmp 108) = _ := sn26; rw [place_at HVS.out (k := 23) rfl] at sn23; replace sn23 : ρ (.tmp 105) = _ := sn23
      clear hf
      clear HCS HVS qs3 qs5 qs8 qs9 qs11
      first
       | (refine run_passed sn23 ?_; exact detK.mk)
       | (refine run_undef sn23 ?_; exact detK.mk)
       | (refine run_guarded sn23 ?_; unfold runs; go_simp; exact detK.mk)
     refine sure_det (js := [(27, 109), (23, 105)]) (ts := []) (gd := (some (105, true))) (place_at HVS.out (k := 28) rfl) (by rw [HCS.out]; kernel_rfl) ?_ ?_
     ·intro wx hx ρ hρ hs hf; have hρc := hρ.const; have hρf := hρ.func; obtain ⟨sn27, sn23, -⟩ := hs; rw [place_at HVS.out (k := 27) rfl] at sn27; replace sn27 : ρ (.tmp 109) = _ := sn27; rw [place_at HVS.out (k := 23) rfl] at sn23; replace sn23 : ρ (.tmp 105) = _ := sn23
      clear hf
      clear HCS HVS qs3 qs5 qs8 qs9 qs11
      first
       | (refine run_passed sn23 ?_; exact detK.mk)
       | (refine run_undef sn23 ?_; exact detK.mk)
       | (refine run_guarded sn23 ?_; refine op_move rfl sn27 ?_; exact detK.mk)
     refine sure_det (js := [(28, 110)]) (ts := [5]) (gd := (some (110, false))) (place_at HVS.out (k := 29) rfl) (by rw [HCS.out]; kernel_rfl) ?_ ?_
     ·intro wx hx ρ hρ hs hf; have hρc := hρ.const; have hρf := hρ.func; obtain ⟨sn28, -⟩ := hs
      obtain ⟨fx5, -⟩ := hf; rw [qs5] at fx5; rw [place_at HVS.out (k := 28) rfl] at sn28; replace sn28 : ρ (.tmp 110) = _ := sn28
      clear HCS HVS qs3 qs5 qs8 qs9 qs11
      first
       | (refine run_passed sn28 ?_; exact detK.mk)
       | (refine run_undef sn28 ?_; exact detK.mk)
       | (refine run_guarded sn28 ?_; unfold runs; go_simp; exact detK.mk)
     refine sure_det (js := [(29, 111), (28, 110)]) (ts := []) (gd := (some (110, false))) (place_at HVS.out (k := 30) rfl) (by rw [HCS.out]; kernel_rfl) ?_ ?_
     ·intro wx hx ρ hρ hs hf; have hρc := hρ.const; have hρf := hρ.func; obtain ⟨sn29, sn28, -⟩ := hs; rw [place_at HVS.out (k := 29) rfl] at sn29; replace sn29 : ρ (.tmp 111) = _ := sn29; rw [place_at HVS.out (k := 28) rfl] at sn28; replace sn28 : ρ (.tmp 110) = _ := sn28
      clear hf
      clear HCS HVS qs3 qs5 qs8 qs9 qs11
      first
       | (refine run_passed sn28 ?_; exact detK.mk)
       | (refine run_undef sn28 ?_; exact detK.mk)
       | (refine run_guarded sn28 ?_; obtain ⟨k0, k1, k2, k3, k4, k5, k6⟩ := hX wx hx.drawn; unfold runs; go_simp; exact detK.mk)
     refine sure_det (js := [(30, 112), (28, 110)]) (ts := []) (gd := (some (110, false))) (place_at HVS.out (k := 31) rfl) (by rw [HCS.out]; kernel_rfl) ?_ ?_
     ·intro wx hx ρ hρ hs hf; have hρc := hρ.const; have hρf := hρ.func; obtain ⟨sn30, sn28, -⟩ := hs; rw [place_at HVS.out (k := 30) rfl] at sn30; replace sn30 : ρ (.tmp 112) = _ := sn30; rw [place_at HVS.out (k := 28) rfl] at sn28; replace sn28 : ρ (.tmp 110) = _ := sn28
      clear hf
      clear HCS HVS qs3 qs5 qs8 qs9 qs11
      first
       | (refine run_passed sn28 ?_; exact detK.mk)
       | (refine run_undef sn28 ?_; exact detK.mk)
       | (refine run_guarded sn28 ?_; unfold runs; go_simp; exact detK.mk)
     refine sure_det (js := [(28, 110), (31, 113), (23, 105)]) (ts := []) (gd := (some (105, true))) (place_at HVS.out (k := 32) rfl) (by rw [HCS.out]; kernel_rfl) ?_ ?_
     ·intro wx hx ρ hρ hs hf; have hρc := hρ.const; have hρf := hρ.func; obtain ⟨sn28, sn31, sn23, -⟩ := hs; rw [place_at HVS.out (k := 28) rfl] at sn28; replace sn28 : ρ (.tmp 110) = _ := sn28; rw [place_at HVS.out (k := 31) rfl] at sn31; replace sn31 : ρ (.tmp 113) = _ := sn31; rw [place_at HVS.out (k := 23) rfl] at sn23; replace sn23 : ρ (.tmp 105) = _ := sn23
      clear hf
      clear HCS HVS qs3 qs5 qs8 qs9 qs11
      first
       | (refine run_passed sn23 ?_; exact detK.mk)
       | (refine run_undef sn23 ?_; exact detK.mk)
       | (refine run_guarded sn23 ?_; (first | refine op_pick_t rfl sn28 (hρ.const _) ?_ | refine op_pick_f rfl sn28 sn31 ?_); exact detK.mk)
     refine sure_det (js := [(23, 105), (32, 114), (11, 93)]) (ts := []) (gd := (some (93, false))) (place_at HVS.out (k := 33) rfl) (by rw [HCS.out]; kernel_rfl) ?_ ?_
     ·intro wx hx ρ hρ hs hf; have hρc := hρ.const; have hρf := hρ.func; obtain ⟨sn23, sn32, sn11, -⟩ := hs; rw [place_at HVS.out (k := 23) rfl] at sn23; replace sn23 : ρ (.tmp 105) = _ := sn23; rw [place_at HVS.out (k := 32) rfl] at sn32; replace sn32 : ρ (.tmp 114) = _ := sn32; rw [place_at HVS.out (k := 11) rfl] at sn11; replace sn11 : ρ (.tmp 93) = _ := sn11
      clear hf
      clear HCS HVS qs3 qs5 qs8 qs9 qs11
      first
       | (refine run_passed sn11 ?_; exact detK.mk)
       | (refine run_undef sn11 ?_; exact detK.mk)
       | (refine run_guarded sn11 ?_; (first | refine op_pick_t rfl sn23 sn32 ?_ | refine op_pick_f rfl sn23 (hρ.const _) ?_); exact detK.mk)
     refine sure_det (js := [(11, 93), (33, 115)]) (ts := []) (gd := none) (place_at HVS.out (k := 34) rfl) (by rw [HCS.out]; kernel_rfl) ?_ ?_
     ·intro wx hx ρ hρ hs hf; have hρc := hρ.const; have hρf := hρ.func; obtain ⟨sn11, sn33, -⟩ := hs; rw [place_at HVS.out (k := 11) rfl] at sn11; replace sn11 : ρ (.tmp 93) = _ := sn11; rw [place_at HVS.out (k := 33) rfl] at sn33; replace sn33 : ρ (.tmp 115) = _ := sn33
      clear hf
      clear HCS HVS qs3 qs5 qs8 qs9 qs11
      refine run_plain ?_
      first | refine op_pick_t rfl sn11 (hρ.const _) ?_ | refine op_pick_f rfl sn11 sn33 ?_
      exact detK.mk
     exact trivial
    case hend =>
     intro xs wx hx hg
     have gk0 : xs 0 = _ := goods_get hg (i := 0) (j := 0) (d := 82) rfl
     have gk1 : xs 1 = _ := goods_get hg (i := 1) (j := 1) (d := 83) rfl
     have gk2 : xs 2 = _ := goods_get hg (i := 2) (j := 2) (d := 84) rfl
     have gk3 : xs 3 = _ := goods_get hg (i := 3) (j := 3) (d := 85) rfl
     have gk4 : xs 4 = _ := goods_get hg (i := 4) (j := 4) (d := 86) rfl
     have gk5 : xs 5 = _ := goods_get hg (i := 5) (j := 5) (d := 87) rfl
     have gk6 : xs 6 = _ := goods_get hg (i := 6) (j := 6) (d := 88) rfl
     have gk7 : xs 7 = _ := goods_get hg (i := 7) (j := 7) (d := 89) rfl
     have gk8 : xs 8 = _ := goods_get hg (i := 8) (j := 8) (d := 90) rfl
     have gk9 : xs 9 = _ := goods_get hg (i := 9) (j := 9) (d := 91) rfl
     have gk10 : xs 10 = _ := goods_get hg (i := 10) (j := 10) (d := 92) rfl
     have gk11 : xs 11 = _ := goods_get hg (i := 11) (j := 11) (d := 93) rfl
     have gk12 : xs 12 = _ := goods_get hg (i := 12) (j := 12) (d := 94) rfl
     have gk13 : xs 13 = _ := goods_get hg (i := 13) (j := 13) (d := 95) rfl
     have gk14 : xs 14 = _ := goods_get hg (i := 14) (j := 14) (d := 96) rfl
     have gk15 : xs 15 = _ := goods_get hg (i := 15) (j := 15) (d := 97) rfl
     have gk16 : xs 16 = _ := goods_get hg (i := 16) (j := 16) (d := 98) rfl
     have gk17 : xs 17 = _ := goods_get hg (i := 17) (j := 17) (d := 99) rfl
     have gk18 : xs 18 = _ := goods_get hg (i := 18) (j := 18) (d := 100) rfl
     have gk19 : xs 19 = _ := goods_get hg (i := 19) (j := 19) (d := 101) rfl
     have gk20 : xs 20 = _ := goods_get hg (i := 20) (j := 20) (d := 102) rfl
     have gk21 : xs 21 = _ := goods_get hg (i := 21) (j := 21) (d := 103) rfl
     have gk22 : xs 22 = _ := goods_get hg (i := 22) (j := 22) (d := 104) rfl
     have gk23 : xs 23 = _ := goods_get hg (i := 23) (j := 23) (d := 105) rfl
     have gk24 : xs 24 = _ := goods_get hg (i := 24) (j := 24) (d := 106) rfl
     have gk25 : xs 25 = _ := goods_get hg (i := 25) (j := 25) (d := 107) rfl
     have gk26 : xs 26 = _ := goods_get hg (i := 26) (j := 26) (d := 108) rfl
     have gk27 : xs 27 = _ := goods_get hg (i := 27) (j := 27) (d := 109) rfl
     have gk28 : xs 28 = _ := goods_get hg (i := 28) (j := 28) (d := 110) rfl
     have gk29 : xs 29 = _ := goods_get hg (i := 29) (j := 29) (d := 111) rfl
     have gk30 : xs 30 = _ := goods_get hg (i := 30) (j := 30) (d := 112) rfl
     have gk31 : xs 31 = _ := goods_get hg (i := 31) (j := 31) (d := 113) rfl
     have gk32 : xs 32 = _ := goods_get hg (i := 32) (j := 32) (d := 114) rfl
     have gk33 : xs 33 = _ := goods_get hg (i := 33) (j := 33) (d := 115) rfl
     have gk34 : xs 34 = _ := goods_get hg (i := 34) (j := 34) (d := 116) rfl
     clear hg
     simp only [putAll, gk0, gk1, gk2, gk3, gk4, gk5, gk6, gk7, gk8, gk9, gk10, gk11, gk12, gk13, gk14, gk15, gk16, gk17, gk18, gk19, gk20, gk21, gk22, gk23, gk24, gk25, gk26, gk27, gk28, gk29, gk30, gk31, gk32, gk33, gk34]
     clear gk0 gk1 gk2 gk3 gk4 gk5 gk6 gk7 gk8 gk9 gk10 gk11 gk12 gk13 gk14 gk15 gk16 gk17 gk18 gk19 gk20 gk21 gk22 gk23 gk24 gk25 gk26 gk27 gk28 gk29 gk30 gk31 gk32 gk33 gk34
     clear xs
     simp only [Act.put, List.setIfInBounds_toArray, List.set_cons_zero, List.set_cons_succ]
     go_wp2
     go_roundw
     case rel => exact ⟨j + 1, by go_num, by omega, hxr.trans hx.drawn⟩
     case measure => simp [intOf]; omega
   ·obtain ⟨hcell, hk4⟩ := hz.resolve_left hzy
    have hzb : (y != z) = true := by simp [hzy]
    have hk4' : ¬ 4 < a.kind := by omega
    rw [hcell] at hX
    go_upto_region 15 with (fail)
    refine' wp_region_sure_all ⟨((some 82, [], none) :: (some 83, [0], none) :: (some 84, [1], none) :: (some 85, [], none) :: (some 86, [2, 3], none) :: (some 87, [4], none) :: (some 88, [], none) :: (some 89, [], none) :: (some 90, [6, 7], none) :: (some 91, [8], none) :: (some 92, [5, 9], none) :: (some 93, [10], none) :: (some 94, [11], some (11, false)) :: (some 95, [12, 11], some (11, false)) :: (some 96, [13, 11], some (11, false)) :: (some 97, [11], some (11, false)) :: (some 98, [14, 15, 11], some (11, false)) :: (some 99, [16, 11], some (11, false)) :: (some 100, [11], some (11, false)) :: (some 101, [11], some (11, false)) :: (some 102, [18, 19, 11], some (11, false)) :: (some 103, [20, 11], some (11, false)) :: (some 104, [17, 21, 11], some (11, false)) :: (some 105, [22, 11, 11], some (11, false)) :: (some 106, [23], some (23, true)) :: (some 107, [23], some (23, true)) :: (some 108, [25, 23], some (23, true)) :: (some 109, [24, 26, 23], some (23, true)) :: (some 110, [27, 23, 23], some (23, true)) :: (some 111, [28], some (28, false)) :: (some 112, [29, 28], some (28, false)) :: (some 113, [30, 28], some (28, false)) :: (some 114, [28, 31, 23], some (23, true)) :: (some 115, [23, 32, 11], some (11, false)) :: (some 116, [11, 33], none) :: []), (0 :: 1 :: 3 :: 0 :: 15 :: 31 :: 0 :: 0 :: 192 :: 448 :: 1023 :: 2047 :: 4095 :: 8191 :: 16383 :: 4095 :: 65535 :: 131071 :: 4095 :: 4095 :: 790527 :: 1839103 :: 4194303 :: 8388607 :: 16777215 :: 16777215 :: 50331647 :: 134217727 :: 268435455 :: 536870911 :: 1073741823 :: 2147483647 :: 4294967295 :: 8589934591 :: 17179869183 :: []), (true :: true :: true :: true :: true :: true :: true :: true :: true :: true :: true :: true :: true :: true :: true :: true :: true :: true :: true :: true :: true :: true :: true :: true :: true :: true :: true :: true :: true :: true :: true :: true :: true :: true :: true :: []), [], 0⟩ 35 165 ((0, 82) :: (1, 83) :: (2, 84) :: (3, 85) :: (4, 86) :: (5, 87) :: (6, 88) :: (7, 89) :: (8, 90) :: (9, 91) :: (10, 92) :: (11, 93) :: (12, 94) :: (13, 95) :: (14, 96) :: (15, 97) :: (16, 98) :: (17, 99) :: (18, 100) :: (19, 101) :: (20, 102) :: (21, 103) :: (22, 104) :: (23, 105) :: (24, 106) :: (25, 107) :: (26, 108) :: (27, 109) :: (28, 110) :: (29, 111) :: (30, 112) :: (31, 113) :: (32, 114) :: (33, 115) :: (34, 116) :: []) ((0, 82) :: (1, 83) :: (2, 84) :: (3, 85) :: (4, 86) :: (5, 87) :: (6, 88) :: (7, 89) :: (8, 90) :: (9, 91) :: (10, 92) :: (11, 93) :: (12, 94) :: (13, 95) :: (14, 96) :: (15, 97) :: (16, 98) :: (17, 99) :: (18, 100) :: (19, 101) :: (20, 102) :: (21, 103) :: (22, 104) :: (23, 105) :: (24, 106) :: (25, 107) :: (26, 108) :: (27, 109) :: (28, 110) :: (29, 111) :: (30, 112) :: (31, 113) :: (32, 114) :: (33, 115) :: (34, 116) :: []) (.det _ :: .det _ :: .det _ :: .det _ :: .det _ :: .det _ :: .det _ :: .det _ :: .det _ :: .det _ :: .det _ :: .det _ :: .det _ :: .det _ :: .det _ :: .det _ :: .det _ :: .det _ :: .det _ :: .det _ :: .det _ :: .det _ :: .det _ :: .det _ :: .det _ :: .det _ :: .det _ :: .det _ :: .det _ :: .det _ :: .det _ :: .det _ :: .det _ :: .det _ :: .det _ :: []) (by kernel_rfl) (by kernel_rfl) (by kernel_rfl) rfl (by kernel_rfl) (by kernel_rfl) rfl (by kernel_rfl) ?hone ?hend
    case hone =>
     intro CS frS VS hCS ha hV
     have qs3 := slot_val (t := 3) ha rfl
     simp only [List.getElem_toArray, List.getElem_cons_succ, List.getElem_cons_zero] at qs3
     have qs5 := slot_val (t := 5) ha rfl
     simp only [List.getElem_toArray, List.getElem_cons_succ, List.getElem_cons_zero] at qs5
     have qs8 := slot_val (t := 8) ha rfl
     simp only [List.getElem_toArray, List.getElem_cons_succ, List.getElem_cons_zero] at qs8
     have qs9 := slot_val (t := 9) ha rfl
     simp only [List.getElem_toArray, List.getElem_cons_succ, List.getElem_cons_zero] at qs9
     have qs11 := slot_val (t := 11) ha rfl
     simp only [List.getElem_toArray, List.getElem_cons_succ, List.getElem_cons_zero] at qs11
     have HCS := Lib.hid hCS
     have HVS := Lib.hid hV
     clear ha hCS hV
     refine sure_det (js := []) (ts := [3]) (gd := none) (place_at HVS.out (k := 0) rfl) (by rw [HCS.out]; kernel_rfl) ?_ ?_
     ·intro wx hx ρ hρ hs hf; have hρc := hρ.const; have hρf := hρ.func
      obtain ⟨fx3, -⟩ := hf; rw [qs3] at fx3
      clear hs
      clear HCS HVS qs3 qs5 qs8 qs9 qs11
      refine run_plain ?_
      unfold runs
      go_simp
      exact detK.mk
     refine sure_det (js := [(0, 82)]) (ts := []) (gd := none) (place_at HVS.out (k := 1) rfl) (by rw [HCS.out]; kernel_rfl) ?_ ?_
     ·intro wx hx ρ hρ hs hf; have hρc := hρ.const; have hρf := hρ.func; obtain ⟨sn0, -⟩ := hs; rw [place_at HVS.out (k := 0) rfl] at sn0; replace sn0 : ρ (.tmp 82) = _ := sn0
      clear hf
      clear HCS HVS qs3 qs5 qs8 qs9 qs11
      refine run_plain ?_
      unfold runs
      go_simp
      exact detK.mk
     refine sure_det (js := [(1, 83)]) (ts := []) (gd := none) (place_at HVS.out (k := 2) rfl) (by rw [HCS.out]; kernel_rfl) ?_ ?_
     ·intro wx hx ρ hρ hs hf; have hρc := hρ.const; have hρf := hρ.func; obtain ⟨sn1, -⟩ := hs; rw [place_at HVS.out (k := 1) rfl] at sn1; replace sn1 : ρ (.tmp 83) = _ := sn1
      clear hf
      clear HCS HVS qs3 qs5 qs8 qs9 qs11
      refine run_plain ?_
      obtain ⟨k0, k1, k2, k3, k4, k5, k6⟩ := hX wx hx.drawn
      unfold runs
      go_simp
      exact detK.mk
     refine sure_det (js := []) (ts := [11]) (gd := none) (place_at HVS.out (k := 3) rfl) (by rw [HCS.out]; kernel_rfl) ?_ ?_
     ·intro wx hx ρ hρ hs hf; have hρc := hρ.const; have hρf := hρ.func
      obtain ⟨fx11, -⟩ := hf; rw [qs11] at fx11
      clear hs
      clear HCS HVS qs3 qs5 qs8 qs9 qs11
      refine run_plain ?_
      refine op_move rfl fx11 ?_
      exact detK.mk
     refine sure_det (js := [(2, 84), (3, 85)]) (ts := []) (gd := none) (place_at HVS.out (k := 4) rfl) (by rw [HCS.out]; kernel_rfl) ?_ ?_
     ·intro wx hx ρ hρ hs hf; have hρc := hρ.const; have hρf := hρ.func; obtain ⟨sn2, sn3, -⟩ := hs; rw [place_at HVS.out (k := 2) rfl] at sn2; replace sn2 : ρ (.tmp 84) = _ := sn2; rw [place_at HVS.out (k := 3) rfl] at sn3; replace sn3 : ρ (.tmp 85) = _ := sn3
      clear hf
      clear HCS HVS qs3 qs5 qs8 qs9 qs11
      refine run_plain ?_
      unfold runs
      go_simp
      exact detK.mk
     refine sure_det (js := [(4, 86)]) (ts := []) (gd := none) (place_at HVS.out (k := 5) rfl) (by rw [HCS.out]; kernel_rfl) ?_ ?_
     ·intro wx hx ρ hρ hs hf; have hρc := hρ.const; have hρf := hρ.func; obtain ⟨sn4, -⟩ := hs; rw [place_at HVS.out (k := 4) rfl] at sn4; replace sn4 : ρ (.tmp 86) = _ := sn4
      clear hf
      clear HCS HVS qs3 qs5 qs8 qs9 qs11
      refine run_plain ?_
      obtain ⟨k0, k1, k2, k3, k4, k5, k6⟩ := hX wx hx.drawn
      unfold runs
      go_simp
      exact detK.mk
     refine sure_det (js := []) (ts := [8]) (gd := none) (place_at HVS.out (k := 6) rfl) (by rw [HCS.out]; kernel_rfl) ?_ ?_
     ·intro wx hx ρ hρ hs hf; have hρc := hρ.const; have hρf := hρ.func
      obtain ⟨fx8, -⟩ := hf; rw [qs8] at fx8
      clear hs
      clear HCS HVS qs3 qs5 qs8 qs9 qs11
      refine run_plain ?_
      refine op_move rfl fx8 ?_
      exact detK.mk
     refine sure_det (js := []) (ts := [11]) (gd := none) (place_at HVS.out (k := 7) rfl) (by rw [HCS.out]; kernel_rfl) ?_ ?_
     ·intro wx hx ρ hρ hs hf; have hρc := hρ.const; have hρf := hρ.func
      obtain ⟨fx11, -⟩ := hf; rw [qs11] at fx11
      clear hs
      clear HCS HVS qs3 qs5 qs8 qs9 qs11
      refine run_plain ?_
      refine op_move rfl fx11 ?_
      exact detK.mk
     refine sure_det (js := [(6, 88), (7, 89)]) (ts := []) (gd := none) (place_at HVS.out (k := 8) rfl) (by rw [HCS.out]; kernel_rfl) ?_ ?_
     ·intro wx hx ρ hρ hs hf; have hρc := hρ.const; have hρf := hρ.func; obtain ⟨sn6, sn7, -⟩ := hs; rw [place_at HVS.out (k := 6) rfl] at sn6; replace sn6 : ρ (.tmp 88) = _ := sn6; rw [place_at HVS.out (k := 7) rfl] at sn7; replace sn7 : ρ (.tmp 89) = _ := sn7
      clear hf
      clear HCS HVS qs3 qs5 qs8 qs9 qs11
      refine run_plain ?_
      unfold runs
      go_simp
      exact detK.mk
     refine sure_det (js := [(8, 90)]) (ts := []) (gd := none) (place_at HVS.out (k := 9) rfl) (by rw [HCS.out]; kernel_rfl) ?_ ?_
     ·intro wx hx ρ hρ hs hf; have hρc := hρ.const; have hρf := hρ.func; obtain ⟨sn8, -⟩ := hs; rw [place_at HVS.out (k := 8) rfl] at sn8; replace sn8 : ρ (.tmp 90) = _ := sn8
      clear hf
      clear HCS HVS qs3 qs5 qs8 qs9 qs11
      refine run_plain ?_
      obtain ⟨k0, k1, k2, k3, k4, k5, k6⟩ := hX wx hx.drawn
      unfold runs
      go_simp
      exact detK.mk
     refine sure_det (js := [(5, 87), (9, 91)]) (ts := []) (gd := none) (place_at HVS.out (k := 10) rfl) (by rw [HCS.out]; kernel_rfl) ?_ ?_
     ·intro wx hx ρ hρ hs hf; have hρc := hρ.const; have hρf := hρ.func; obtain ⟨sn5, sn9, -⟩ := hs; rw [place_at HVS.out (k := 5) rfl] at sn5; replace sn5 : ρ (.tmp 87) = _ := sn5; rw [place_at HVS.out (k := 9) rfl] at sn9; replace sn9 : ρ (.tmp 91) = _ := sn9
      clear hf
      clear HCS HVS qs3 qs5 qs8 qs9 qs11
      refine run_plain ?_
      unfold runs
      go_simp
      exact detK.mk
     refine sure_det (js := [(10, 92)]) (ts := []) (gd := none) (place_at HVS.out (k := 11) rfl) (by rw [HCS.out]; kernel_rfl) ?_ ?_
     ·intro wx hx ρ hρ hs hf; have hρc := hρ.const; have hρf := hρ.func; obtain ⟨sn10, -⟩ := hs; rw [place_at HVS.out (k := 10) rfl] at sn10; replace sn10 : ρ (.tmp 92) = _ := sn10
      clear hf
      clear HCS HVS qs3 qs5 qs8 qs9 qs11
      refine run_plain ?_
      refine op_move rfl sn10 ?_
      exact detK.mk
     refine sure_det (js := [(11, 93)]) (ts := [9]) (gd := (some (93, false))) (place_at HVS.out (k := 12) rfl) (by rw [HCS.out]; kernel_rfl) ?_ ?_
     ·intro wx hx ρ hρ hs hf; have hρc := hρ.const; have hρf := hρ.func; obtain ⟨sn11, -⟩ := hs
      obtain ⟨fx9, -⟩ := hf; rw [qs9] at fx9; rw [place_at HVS.out (k := 11) rfl] at sn11; replace sn11 : ρ (.tmp 93) = _ := sn11
      clear HCS HVS qs3 qs5 qs8 qs9 qs11
      first
       | (refine run_passed sn11 ?_; exact detK.mk)
       | (refine run_undef sn11 ?_; exact detK.mk)
       | (refine run_guarded sn11 ?_; unfold runs; go_simp; exact detK.mk)
     refine sure_det (js := [(12, 94), (11, 93)]) (ts := []) (gd := (some (93, false))) (place_at HVS.out (k := 13) rfl) (by rw [HCS.out]; kernel_rfl) ?_ ?_
     ·intro wx hx ρ hρ hs hf; have hρc := hρ.const; have hρf := hρ.func; obtain ⟨sn12, sn11, -⟩ := hs; rw [place_at HVS.out (k := 12) rfl] at sn12; replace sn12 : ρ (.tmp 94) = _ := sn12; rw [place_at HVS.out (k := 11) rfl] at sn11; replace sn11 : ρ (.tmp 93) = _ := sn11
      clear hf
      clear HCS HVS qs3 qs5 qs8 qs9 qs11
      first
       | (refine run_passed sn11 ?_; exact detK.mk)
       | (refine run_undef sn11 ?_; exact detK.mk)
       | (refine run_guarded sn11 ?_; unfold runs; go_simp; exact detK.mk)
     refine sure_det (js := [(13, 95), (11, 93)]) (ts := []) (gd := (some (93, false))) (place_at HVS.out (k := 14) rfl) (by rw [HCS.out]; kernel_rfl) ?_ ?_
     ·intro wx hx ρ hρ hs hf; have hρc := hρ.const; have hρf := hρ.func; obtain ⟨sn13, sn11, -⟩ := hs; rw [place_at HVS.out (k := 13) rfl] at sn13; replace sn13 : ρ (.tmp 95) = _ := sn13; rw [place_at HVS.out (k := 11) rfl] at sn11; replace sn11 : ρ (.tmp 93) = _ := sn11
      clear hf
      clear HCS HVS qs3 qs5 qs8 qs9 qs11
      first
       | (refine run_passed sn11 ?_; exact detK.mk)
       | (refine run_undef sn11 ?_; exact detK.mk)
       | (refine run_guarded sn11 ?_; obtain ⟨k0, k1, k2, k3, k4, k5, k6⟩ := hX wx hx.drawn; unfold runs; go_simp; exact detK.mk)
     refine sure_det (js := [(11, 93)]) (ts := [11]) (gd := (some (93, false))) (place_at HVS.out (k := 15) rfl) (by rw [HCS.out]; kernel_rfl) ?_ ?_
     ·intro wx hx ρ hρ hs hf; have hρc := hρ.const; have hρf := hρ.func; obtain ⟨sn11, -⟩ := hs
      obtain ⟨fx11, -⟩ := hf; rw [qs11] at fx11; rw [place_at HVS.out (k := 11) rfl] at sn11; replace sn11 : ρ (.tmp 93) = _ := sn11
      clear HCS HVS qs3 qs5 qs8 qs9 qs11
      first
       | (refine run_passed sn11 ?_; exact detK.mk)
       | (refine run_undef sn11 ?_; exact detK.mk)
       | (refine run_guarded sn11 ?_; refine op_move rfl fx11 ?_; exact detK.mk)
     refine sure_det (js := [(14, 96), (15, 97), (11, 93)]) (ts := []) (gd := (some (93, false))) (place_at HVS.out (k := 16) rfl) (by rw [HCS.out]; kernel_rfl) ?_ ?_
     ·intro wx hx ρ hρ hs hf; have hρc := hρ.const; have hρf := hρ.func; obtain ⟨sn14, sn15, sn11, -⟩ := hs; rw [place_at HVS.out (k := 14) rfl] at sn14; replace sn14 : ρ (.tmp 96) = _ := sn14; rw [place_at HVS.out (k := 15) rfl] at sn15; replace sn15 : ρ (.tmp 97) = _ := sn15; rw [place_at HVS.out (k := 11) rfl] at sn11; replace sn11 : ρ (.tmp 93) = _ := sn11
      clear hf
      clear HCS HVS qs3 qs5 qs8 qs9 qs11
      first
       | (refine run_passed sn11 ?_; exact detK.mk)
       | (refine run_undef sn11 ?_; exact detK.mk)
       | (refine run_guarded sn11 ?_; unfold runs; go_simp; exact detK.mk)
     refine sure_det (js := [(16, 98), (11, 93)]) (ts := []) (gd := (some (93, false))) (place_at HVS.out (k := 17) rfl) (by rw [HCS.out]; kernel_rfl) ?_ ?_
     ·intro wx hx ρ hρ hs hf; have hρc := hρ.const; have hρf := hρ.func; obtain ⟨sn16, sn11, -⟩ := hs; rw [place_at HVS.out (k := 16) rfl] at sn16; replace sn16 : ρ (.tmp 98) = _ := sn16; rw [place_at HVS.out (k := 11) rfl] at sn11; replace sn11 : ρ (.tmp 93) = _ := sn11
      clear hf
      clear HCS HVS qs3 qs5 qs8 qs9 qs11
      first
       | (refine run_passed sn11 ?_; exact detK.mk)
       | (refine run_undef sn11 ?_; exact detK.mk)
       | (refine run_guarded sn11 ?_; obtain ⟨k0, k1, k2, k3, k4, k5, k6⟩ := hX wx hx.drawn; unfold runs; go_simp; exact detK.mk)
     refine sure_det (js := [(11, 93)]) (ts := [8]) (gd := (some (93, false))) (place_at HVS.out (k := 18) rfl) (by rw [HCS.out]; kernel_rfl) ?_ ?_
     ·intro wx hx ρ hρ hs hf; have hρc := hρ.const; have hρf := hρ.func; obtain ⟨sn11, -⟩ := hs
      obtain ⟨fx8, -⟩ := hf; rw [qs8] at fx8; rw [place_at HVS.out (k := 11) rfl] at sn11; replace sn11 : ρ (.tmp 93) = _ := sn11
      clear HCS HVS qs3 qs5 qs8 qs9 qs11
      first
       | (refine run_passed sn11 ?_; exact detK.mk)
       | (refine run_undef sn11 ?_; exact detK.mk)
       | (refine run_guarded sn11 ?_; refine op_move rfl fx8 ?_; exact detK.mk)
     refine sure_det (js := [(11, 93)]) (ts := [11]) (gd := (some (93, false))) (place_at HVS.out (k := 19) rfl) (by rw [HCS.out]; kernel_rfl) ?_ ?_
     ·intro wx hx ρ hρ hs hf; have hρc := hρ.const; have hρf := hρ.func; obtain ⟨sn11, -⟩ := hs
      obtain ⟨fx11, -⟩ := hf; rw [qs11] at fx11; rw [place_at HVS.out (k := 11) rfl] at sn11; replace sn11 : ρ (.tmp 93) = _ := sn11
      clear HCS HVS qs3 qs5 qs8 qs9 qs11
      first
       | (refine run_passed sn11 ?_; exact detK.mk)
       | (refine run_undef sn11 ?_; exact detK.mk)
       | (refine run_guarded sn11 ?_; refine op_move rfl fx11 ?_; exact detK.mk)
     refine sure_det (js := [(18, 100), (19, 101), (11, 93)]) (ts := []) (gd := (some (93, false))) (place_at HVS.out (k := 20) rfl) (by rw [HCS.out]; kernel_rfl) ?_ ?_
     ·intro wx hx ρ hρ hs hf; have hρc := hρ.const; have hρf := hρ.func; obtain ⟨sn18, sn19, sn11, -⟩ := hs; rw [place_at HVS.out (k := 18) rfl] at sn18; replace sn18 : ρ (.tmp 100) = _ := sn18; rw [place_at HVS.out (k := 19) rfl] at sn19; replace sn19 : ρ (.tmp 101) = _ := sn19; rw [place_at HVS.out (k := 11) rfl] at sn11; replace sn11 : ρ (.tmp 93) = _ := sn11
      clear hf
      clear HCS HVS qs3 qs5 qs8 qs9 qs11
      first
       | (refine run_passed sn11 ?_; exact detK.mk)
       | (refine run_undef sn11 ?_; exact detK.mk)
       | (refine run_guarded sn11 ?_; unfold runs; go_simp; exact detK.mk)
     refine sure_det (js := [(20, 102), (11, 93)]) (ts := []) (gd := (some (93, false))) (place_at HVS.out (k := 21) rfl) (by rw [HCS.out]; kernel_rfl) ?_ ?_
     ·intro wx hx ρ hρ hs hf; have hρc := hρ.const; have hρf := hρ.func; obtain ⟨sn20, sn11, -⟩ := hs; rw [place_at HVS.out (k := 20) rfl] at sn20; replace sn20 : ρ (.tmp 102) = _ := sn20; rw [place_at HVS.out (k := 11) rfl] at sn11; replace sn11 : ρ (.tmp 93) = _ := sn11
      clear hf
      clear HCS HVS qs3 qs5 qs8 qs9 qs11
      first
       | (refine run_passed sn11 ?_; exact detK.mk)
       | (refine run_undef sn11 ?_; exact detK.mk)
       | (refine run_guarded sn11 ?_; obtain ⟨k0, k1, k2, k3, k4, k5, k6⟩ := hX wx hx.drawn; unfold runs; go_simp; exact detK.mk)
     refine sure_det (js := [(17, 99), (21, 103), (11, 93)]) (ts := []) (gd := (some (93, false))) (place_at HVS.out (k := 22) rfl) (by rw [HCS.out]; kernel_rfl) ?_ ?_
     ·intro wx hx ρ hρ hs hf; have hρc := hρ.const; have hρf := hρ.func; obtain ⟨sn17, sn21, sn11, -⟩ := hs; rw [place_at HVS.out (k := 17) rfl] at sn17; replace sn17 : ρ (.tmp 99) = _ := sn17; rw [place_at HVS.out (k := 21) rfl] at sn21; replace sn21 : ρ (.tmp 103) = _ := sn21; rw [place_at HVS.out (k := 11) rfl] at sn11; replace sn11 : ρ (.tmp 93) = _ := sn11
      clear hf
      clear HCS HVS qs3 qs5 qs8 qs9 qs11
      first
       | (refine run_passed sn11 ?_; exact detK.mk)
       | (refine run_undef sn11 ?_; exact detK.mk)
       | (refine run_guarded sn11 ?_; unfold runs; go_simp; exact detK.mk)
     refine sure_det (js := [(22, 104), (11, 93)]) (ts := []) (gd := (some (93, false))) (place_at HVS.out (k := 23) rfl) (by rw [HCS.out]; kernel_rfl) ?_ ?_
     ·intro wx hx ρ hρ hs hf; have hρc := hρ.const; have hρf := hρ.func; obtain ⟨sn22, sn11, -⟩ := hs; rw [place_at HVS.out (k := 22) rfl] at sn22; replace sn22 : ρ (.tmp 104) = _ := sn22; rw [place_at HVS.out (k := 11) rfl] at sn11; replace sn11 : ρ (.tmp 93) = _ := sn11
      clear hf
      clear HCS HVS qs3 qs5 qs8 qs9 qs11
      first
       | (refine run_passed sn11 ?_; exact detK.mk)
       | (refine run_undef sn11 ?_; exact detK.mk)
       | (refine run_guarded sn11 ?_; refine op_move rfl sn22 ?_; exact detK.mk)
     refine sure_det (js := [(23, 105)]) (ts := [11]) (gd := (some (105, true))) (place_at HVS.out (k := 24) rfl) (by rw [HCS.out]; kernel_rfl) ?_ ?_
     ·intro wx hx ρ hρ hs hf; have hρc := hρ.const; have hρf := hρ.func; obtain ⟨sn23, -⟩ := hs
      obtain ⟨fx11, -⟩ := hf; rw [qs11] at fx11; rw [place_at HVS.out (k := 23) rfl] at sn23; replace sn23 : ρ (.tmp 105) = _ := sn23
      clear HCS HVS qs3 qs5 qs8 qs9 qs11
      first
       | (refine run_passed sn23 ?_; exact detK.mk)
       | (refine run_undef sn23 ?_; exact detK.mk)
       | (refine run_guarded sn23 ?_; refine op_move rfl fx11 ?_; exact detK.mk)
     refine sure_det (js := [(23, 105)]) (ts := [5]) (gd := (some (105, true))) (place_at HVS.out (k := 25) rfl) (by rw [HCS.out]; kernel_rfl) ?_ ?_
     ·intro wx hx ρ hρ hs hf; have hρc := hρ.const; have hρf := hρ.func; obtain ⟨sn23, -⟩ := hs
      obtain ⟨fx5, -⟩ := hf; rw [qs5] at fx5; rw [place_at HVS.out (k := 23) rfl] at sn23; replace sn23 : ρ (.tmp 105) = _ := sn23
      clear HCS HVS qs3 qs5 qs8 qs9 qs11
      first
       | (refine run_passed sn23 ?_; exact detK.mk)
       | (refine run_undef sn23 ?_; exact detK.mk)
       | (refine run_guarded sn23 ?_; unfold runs; go_simp; exact detK.mk)
     refine sure_det (js := [(25, 107), (23, 105)]) (ts := []) (gd := (some (105, true))) (place_at HVS.out (k := 26) rfl) (by rw [HCS.out]; kernel_rfl) ?_ ?_
     ·intro wx hx ρ hρ hs hf; have hρc := hρ.const; have hρf := hρ.func; obtain ⟨sn25, sn23, -⟩ := hs; rw [place_at HVS.out (k := 25) rfl] at sn25; replace sn25 : ρ (.tmp 107) = _ := sn25; rw [place_at HVS.out (k := 23) rfl] at sn23; replace sn23 : ρ (.tmp 105) = _ := sn23
      clear hf
      clear HCS HVS qs3 qs5 qs8 qs9 qs11
      first
       | (refine run_passed sn23 ?_; exact detK.mk)
       | (refine run_undef sn23 ?_; exact detK.mk)
       | (refine run_guarded sn23 ?_; obtain ⟨k0, k1, k2, k3, k4, k5, k6⟩ := hX wx hx.drawn; unfold runs; go_simp; exact detK.mk)
     refine sure_det (js := [(24, 106), (26, 108), (23, 105)]) (ts := []) (gd := (some (105, true))) (place_at HVS.out (k := 27) rfl) (by rw [HCS.out]; kernel_rfl) ?_ ?_
     ·intro wx hx ρ hρ hs hf; have hρc := hρ.const; have hρf := hρ.func; obtain ⟨sn24, sn26, sn23, -⟩ := hs; rw [place_at HVS.out (k := 24) rfl] at sn24; replace sn24 : ρ (.tmp 106) = _ := sn24; rw [place_at HVS.out (k := 26) rfl] at sn26; replace sn26 : ρ (.tmp 108) = _ := sn26; rw [place_at HVS.out (k := 23) rfl] at sn23; replace sn23 : ρ (.tmp 105) = _ := sn23
      clear hf
      clear HCS HVS qs3 qs5 qs8 qs9 qs11
      first
       | (refine run_passed sn23 ?_; exact detK.mk)
       | (refine run_undef sn23 ?_; exact detK.mk)
       | (refine run_guarded sn23 ?_; unfold runs; go_simp; exact detK.mk)
     refine sure_det (js := [(27, 109), (23, 105)]) (ts := []) (gd := (some (105, true))) (place_at HVS.out (k := 28) rfl) (by rw [HCS.out]; kernel_rfl) ?_ ?_
     ·intro wx hx ρ hρ hs hf; have hρc := hρ.const; have hρf := hρ.func; obtain ⟨sn27, sn23, -⟩ := hs; rw [place_at HVS.out (k := 27) rfl] at sn27; replace sn27 : ρ (.tmp 109) = _ := sn27; rw [place_at HVS.out (k := 23) rfl] at sn23; replace sn23 : ρ (.tmp 105) = _ := sn23
      clear hf
      clear HCS HVS qs3 qs5 qs8 qs9 qs11
      first
       | (refine run_passed sn23 ?_; exact detK.mk)
       | (refine run_undef sn23 ?_; exact detK.mk)
       | (refine run_guarded sn23 ?_; refine op_move rfl sn27 ?_; exact detK.mk)
     refine sure_det (js := [(28, 110)]) (ts := [5]) (gd := (some (110, false))) (place_at HVS.out (k := 29) rfl) (by rw [HCS.out]; kernel_rfl) ?_ ?_
     ·intro wx hx ρ hρ hs hf; have hρc := hρ.const; have hρf := hρ.func; obtain ⟨sn28, -⟩ := hs
      obtain ⟨fx5, -⟩ := hf; rw [qs5] at fx5; rw [place_at HVS.out (k := 28) rfl] at sn28; replace sn28 : ρ (.tmp 110) = _ := sn28
      clear HCS HVS qs3 qs5 qs8 qs9 qs11
      first
       | (refine run_passed sn28 ?_; exact detK.mk)
       | (refine run_undef sn28 ?_; exact detK.mk)
       | (refine run_guarded sn28 ?_; unfold runs; go_simp; exact detK.mk)
     refine sure_det (js := [(29, 111), (28, 110)]) (ts := []) (gd := (some (110, false))) (place_at HVS.out (k := 30) rfl) (by rw [HCS.out]; kernel_rfl) ?_ ?_
     ·intro wx hx ρ hρ hs hf; have hρc := hρ.const; have hρf := hρ.func; obtain ⟨sn29, sn28, -⟩ := hs; rw [place_at HVS.out (k := 29) rfl] at sn29; replace sn29 : ρ (.tmp 111) = _ := sn29; rw [place_at HVS.out (k := 28) rfl] at sn28; replace sn28 : ρ (.tmp 110) = _ := sn28
      clear hf
      clear HCS HVS qs3 qs5 qs8 qs9 qs11
      first
       | (refine run_passed sn28 ?_; exact detK.mk)
       | (refine run_undef sn28 ?_; exact detK.mk)
       | (refine run_guarded sn28 ?_; obtain ⟨k0, k1, k2, k3, k4, k5, k6⟩ := hX wx hx.drawn; unfold runs; go_simp; exact detK.mk)
     refine sure_det (js := [(30, 112), (28, 110)]) (ts := []) (gd := (some (110, false))) (place_at HVS.out (k := 31) rfl) (by rw [HCS.out]; kernel_rfl) ?_ ?_
     ·intro wx hx ρ hρ hs hf; have hρc := hρ.const; have hρf := hρ.func; obtain ⟨sn30, sn28, -⟩ := hs; rw [place_at HVS.out (k := 30) rfl] at sn30; replace sn30 : ρ (.tmp 112) = _ := sn30; rw [place_at HVS.out (k := 28) rfl] at sn28; replace sn28 : ρ (.tmp 110) = _ := sn28
      clear hf
      clear HCS HVS qs3 qs5 qs8 qs9 qs11
      first
       | (refine run_passed sn28 ?_; exact detK.mk)
       | (refine run_undef sn28 ?_; exact detK.mk)
       | (refine run_guarded sn28 ?_; unfold runs; go_simp; exact detK.mk)
     refine sure_det (js := [(28, 110), (31, 113), (23, 105)]) (ts := []) (gd := (some (105, true))) (place_at HVS.out (k := 32) rfl) (by rw [HCS.out]; kernel_rfl) ?_ ?_
     ·intro wx hx ρ hρ hs hf; have hρc := hρ.const; have hρf := hρ.func; obtain ⟨sn28, sn31, sn23, -⟩ := hs; rw [place_at HVS.out (k := 28) rfl] at sn28; replace sn28 : ρ (.tmp 110) = _ := sn28; rw [place_at HVS.out (k := 31) rfl] at sn31; replace sn31 : ρ (.tmp 113) = _ := sn31; rw [place_at HVS.out (k := 23) rfl] at sn23; replace sn23 : ρ (.tmp 105) = _ := sn23
      clear hf
      clear HCS HVS qs3 qs5 qs8 qs9 qs11
      first
       | (refine run_passed sn23 ?_; exact detK.mk)
       | (refine run_undef sn23 ?_; exact detK.mk)
       | (refine run_guarded sn23 ?_; (first | refine op_pick_t rfl sn28 (hρ.const _) ?_ | refine op_pick_f rfl sn28 sn31 ?_); exact detK.mk)
     refine sure_det (js := [(23, 105), (32, 114), (11, 93)]) (ts := []) (gd := (some (93, false))) (place_at HVS.out (k := 33) rfl) (by rw [HCS.out]; kernel_rfl) ?_ ?_
     ·intro wx hx ρ hρ hs hf; have hρc := hρ.const; have hρf := hρ.func; obtain ⟨sn23, sn32, sn11, -⟩ := hs; rw [place_at HVS.out (k := 23) rfl] at sn23; replace sn23 : ρ (.tmp 105) = _ := sn23; rw [place_at HVS.out (k := 32) rfl] at sn32; replace sn32 : ρ (.tmp 114) = _ := sn32; rw [place_at HVS.out (k := 11) rfl] at sn11; replace sn11 : ρ (.tmp 93) = _ := sn11
      clear hf
      clear HCS HVS qs3 qs5 qs8 qs9 qs11
      first
       | (refine run_passed sn11 ?_; exact detK.mk)
       | (refine run_undef sn11 ?_; exact detK.mk)
       | (refine run_guarded sn11 ?_; (first | refine op_pick_t rfl sn23 sn32 ?_ | refine op_pick_f rfl sn23 (hρ.const _) ?_); exact detK.mk)
     refine sure_det (js := [(11, 93), (33, 115)]) (ts := []) (gd := none) (place_at HVS.out (k := 34) rfl) (by rw [HCS.out]; kernel_rfl) ?_ ?_
     ·intro wx hx ρ hρ hs hf; have hρc := hρ.const; have hρf := hρ.func; obtain ⟨sn11, sn33, -⟩ := hs; rw [place_at HVS.out (k := 11) rfl] at sn11; replace sn11 : ρ (.tmp 93) = _ := sn11; rw [place_at HVS.out (k := 33) rfl] at sn33; replace sn33 : ρ (.tmp 115) = _ := sn33
      clear hf
      clear HCS HVS qs3 qs5 qs8 qs9 qs11
      refine run_plain ?_
      first | refine op_pick_t rfl sn11 (hρ.const _) ?_ | refine op_pick_f rfl sn11 sn33 ?_
      exact detK.mk
     exact trivial
    case hend =>
     intro xs wx hx hg
     have gk0 : xs 0 = _ := goods_get hg (i := 0) (j := 0) (d := 82) rfl
     have gk1 : xs 1 = _ := goods_get hg (i := 1) (j := 1) (d := 83) rfl
     have gk2 : xs 2 = _ := goods_get hg (i := 2) (j := 2) (d := 84) rfl
     have gk3 : xs 3 = _ := goods_get hg (i := 3) (j := 3) (d := 85) rfl
     have gk4 : xs 4 = _ := goods_get hg (i := 4) (j := 4) (d := 86) rfl
     have gk5 : xs 5 = _ := goods_get hg (i := 5) (j := 5) (d := 87) rfl
     have gk6 : xs 6 = _ := goods_get hg (i := 6) (j := 6) (d := 88) rfl
     have gk7 : xs 7 = _ := goods_get hg (i := 7) (j := 7) (d := 89) rfl
     have gk8 : xs 8 = _ := goods_get hg (i := 8) (j := 8) (d := 90) rfl
     have gk9 : xs 9 = _ := goods_get hg (i := 9) (j := 9) (d := 91) rfl
     have gk10 : xs 10 = _ := goods_get hg (i := 10) (j := 10) (d := 92) rfl
     have gk11 : xs 11 = _ := goods_get hg (i := 11) (j := 11) (d := 93) rfl
     have gk12 : xs 12 = _ := goods_get hg (i := 12) (j := 12) (d := 94) rfl
     have gk13 : xs 13 = _ := goods_get hg (i := 13) (j := 13) (d := 95) rfl
     have gk14 : xs 14 = _ := goods_get hg (i := 14) (j := 14) (d := 96) rfl
     have gk15 : xs 15 = _ := goods_get hg (i := 15) (j := 15) (d := 97) rfl
     have gk16 : xs 16 = _ := goods_get hg (i := 16) (j := 16) (d := 98) rfl
     have gk17 : xs 17 = _ := goods_get hg (i := 17) (j := 17) (d := 99) rfl
     have gk18 : xs 18 = _ := goods_get hg (i := 18) (j := 18) (d := 100) rfl
     have gk19 : xs 19 = _ := goods_get hg (i := 19) (j := 19) (d := 101) rfl
     have gk20 : xs 20 = _ := goods_get hg (i := 20) (j := 20) (d := 102) rfl
     have gk21 : xs 21 = _ := goods_get hg (i := 21) (j := 21) (d := 103) rfl
     have gk22 : xs 22 = _ := goods_get hg (i := 22) (j := 22) (d := 104) rfl
     have gk23 : xs 23 = _ := goods_get hg (i := 23) (j := 23) (d := 105) rfl
     have gk24 : xs 24 = _ := goods_get hg (i := 24) (j := 24) (d := 106) rfl
     have gk25 : xs 25 = _ := goods_get hg (i := 25) (j := 25) (d := 107) rfl
     have gk26 : xs 26 = _ := goods_get hg (i := 26) (j := 26) (d := 108) rfl
     have gk27 : xs 27 = _ := goods_get hg (i := 27) (j := 27) (d := 109) rfl
     have gk28 : xs 28 = _ := goods_get hg (i := 28) (j := 28) (d := 110) rfl
     have gk29 : xs 29 = _ := goods_get hg (i := 29) (j := 29) (d := 111) rfl
     have gk30 : xs 30 = _ := goods_get hg (i := 30) (j := 30) (d := 112) rfl
     have gk31 : xs 31 = _ := goods_get hg (i := 31) (j := 31) (d := 113) rfl
     have gk32 : xs 32 = _ := goods_get hg (i := 32) (j := 32) (d := 114) rfl
     have gk33 : xs 33 = _ := goods_get hg (i := 33) (j := 33) (d := 115) rfl
     have gk34 : xs 34 = _ := goods_get hg (i := 34) (j := 34) (d := 116) rfl
     clear hg
     simp only [putAll, gk0, gk1, gk2, gk3, gk4, gk5, gk6, gk7, gk8, gk9, gk10, gk11, gk12, gk13, gk14, gk15, gk16, gk17, gk18, gk19, gk20, gk21, gk22, gk23, gk24, gk25, gk26, gk27, gk28, gk29, gk30, gk31, gk32, gk33, gk34]
     clear gk0 gk1 gk2 gk3 gk4 gk5 gk6 gk7 gk8 gk9 gk10 gk11 gk12 gk13 gk14 gk15 gk16 gk17 gk18 gk19 gk20 gk21 gk22 gk23 gk24 gk25 gk26 gk27 gk28 gk29 gk30 gk31 gk32 gk33 gk34
     clear xs
     simp only [Act.put, List.setIfInBounds_toArray, List.set_cons_zero, List.set_cons_succ]
     go_wp2
     go_roundw
     case rel => exact ⟨j + 1, by go_num, by omega, hxr.trans hx.drawn⟩
     case measure => simp [intOf]; omega
  ·obtain rfl : j = xq1 := by omega
   replace hI := heap_ext hI hxr
   replace hB := heap_ext hB hxr
   replace hA := heap_ext hA hxr
   replace hbx1 := heap_ext hbx1 hxr
   replace hrx1 := heap_ext hrx1 hxr
   replace ha := ha.ext hxr
   replace hV := hV.ext hxr
   replace hwd := hwd.ext hxr
   replace hwz := hwz.ext hxr
   replace hV1 := hV1.ext hxr
   replace hR1 := hR1.ext hxr
   replace hw1 := hw1.ext hxr
   replace hs1 := hs1.ext hxr
   replace hW := hW.trans hxr
   have x0 : wr.cell? ⟨g1, 0, none⟩ = some (.int .i64 T) := by simp [World.cell?, hbx1]
   have x1 : wr.cell? ⟨g1, 1, none⟩ = some (.int .i64 C) := by simp [World.cell?, hbx1]
   have x2 : wr.cell? ⟨g1, 2, none⟩ = some (.slice (some a1) j xc1) := by simp [World.cell?, hbx1]
   have x3 : wr.cell? ⟨g1, 3, none⟩ = some (.int .u64 X1.R) := by simp [World.cell?, hbx1]
   have x4 : wr.cell? ⟨g1, 4, none⟩ = some (.slice xB1 n1 xb1) := by simp [World.cell?, hbx1]
   have x5 : wr.cell? ⟨g1, 5, none⟩ = some (.slice xC1 n1 xd1) := by simp [World.cell?, hbx1]
   have e0 : wr.cell? ⟨gw, 0, none⟩ = some (.int .i64 T) := by simp [World.cell?, hB]
   have e1 : wr.cell? ⟨gw, 1, none⟩ = some (.int .i64 C) := by simp [World.cell?, hB]
   have e2 : wr.cell? ⟨gw, 2, none⟩ = some (.slice (some a0) j c) := by simp [World.cell?, hB]
   have e3 : wr.cell? ⟨gw, 3, none⟩ = some (.int .u64 R) := by simp [World.cell?, hB]
   have e4 : wr.cell? ⟨gw, 4, none⟩ = some (.slice A0 n1 c0) := by simp [World.cell?, hB]
   have e5 : wr.cell? ⟨gw, 5, none⟩ = some (.slice A1 n1 c1) := by simp [World.cell?, hB]
   cases hdk : diskKind a.kind
   ·cases fail
    ·have P3 := Lib.hid p3
     have P6 := Lib.hid p6
     have Y1 := Lib.hid y1
     have Y2 := Lib.hid y2
     clear p3 p4 p5 p6 y1 y2
     go_wp2_with fail
     obtain ⟨k1, k2, k3⟩ := P6.out (.inl hdk)
     refine (dsame_eq hV1.dk hV.dk k1 P3.out k2 k3).mono ?_
     rintro e v2 ⟨rfl, hx2⟩
     have hfl : R1.fail = false := by rw [Y1.out, hdk]; rfl
     rw [hfl] at hrx1
     have hX : ∀ wx, Ext v2 wx → wx.cell? ⟨g1 + 1, 0, none⟩ = some (.int .u64 R1.N) ∧ wx.cell? ⟨g1 + 1, 1, none⟩ = some (.slice yS1 ys1 yt1) ∧ wx.cell? ⟨g1 + 1, 2, none⟩ = some (.bool false) ∧ wx.cell? ⟨ga, 0, none⟩ = some (.int .i64 a.kind) ∧ wx.cell? ⟨g1, 0, none⟩ = some (.int .i64 T) ∧ wx.cell? ⟨g1, 1, none⟩ = some (.int .i64 C) ∧ wx.cell? ⟨g1, 2, none⟩ = some (.slice (some a1) j xc1) ∧ wx.cell? ⟨g1, 3, none⟩ = some (.int .u64 X1.R) ∧ wx.cell? ⟨g1, 4, none⟩ = some (.slice xB1 n1 xb1) ∧ wx.cell? ⟨g1, 5, none⟩ = some (.slice xC1 n1 xd1) := fun wx hx =>
      ⟨(hx2.trans hx).cell (by simp [World.cell?, hrx1]), (hx2.trans hx).cell (by simp [World.cell?, hrx1]), (hx2.trans hx).cell (by simp [World.cell?, hrx1]), (hx2.trans hx).cell (by simp [World.cell?, hA]), (hx2.trans hx).cell (by simp [World.cell?, hbx1]), (hx2.trans hx).cell (by simp [World.cell?, hbx1]), (hx2.trans hx).cell (by simp [World.cell?, hbx1]), (hx2.trans hx).cell (by simp [World.cell?, hbx1]), (hx2.trans hx).cell (by simp [World.cell?, hbx1]), (hx2.trans hx).cell (by simp [World.cell?, hbx1])⟩
     clear x0 x1 x2 x3 x4 x5 e0 e1 e2 e3 e4 e5 P3 P6 Y1 Y2 hXw hml hj hfl hs1 hw1 hwz hV hR1 ha hwd hqc hq2 k1 k2 k3
     go_upto_region 18 with (fail)
     refine' wp_region_sure_all ⟨((some 122, [], none) :: (some 123, [0], none) :: (some 124, [1], some (1, true)) :: (some 125, [2, 1], some (1, true)) :: (some 126, [1], some (1, true)) :: (some 127, [4, 1, 1], some (1, true)) :: (some 128, [5], some (5, true)) :: (some 129, [6, 5], some (5, true)) :: (some 130, [7, 5, 5], some (5, true)) :: (some 131, [5, 8, 1], some (1, true)) :: (some 132, [3, 9, 1], some (1, true)) :: (some 133, [1, 10], none) :: (some 134, [11, 8], none) :: (some 135, [12], some (12, true)) :: (some 136, [13, 12], some (12, true)) :: (some 137, [14, 12, 12], some (12, true)) :: (some 138, [15, 15, 12], some (12, true)) :: (some 139, [16], some (16, false)) :: (some 140, [16, 17, 12], some (12, true)) :: (some 141, [12, 18], none) :: (some 142, [19, 16], none) :: (some 143, [20], some (20, true)) :: (some 144, [21, 20], some (20, true)) :: (some 145, [22, 20], some (20, true)) :: (some 146, [23, 20, 20], some (20, true)) :: (some 147, [24], some (24, false)) :: (some 148, [25, 24, 24], some (24, false)) :: (some 149, [26], some (26, true)) :: (some 150, [27, 26], some (26, true)) :: (some 151, [28, 26], some (26, true)) :: (some 152, [29, 26], some (26, true)) :: (some 153, [26, 30, 24], some (24, false)) :: (some 154, [31, 26, 24], some (24, false)) :: (some 155, [32], some (32, true)) :: (some 156, [33, 32], some (32, true)) :: (some 157, [34, 32], some (32, true)) :: (some 158, [32, 35, 24], some (24, false)) :: (some 159, [24, 36, 20], some (20, true)) :: (some 160, [20, 37], none) :: (some 161, [38, 32], none) :: (some 162, [39], some (39, true)) :: (some 163, [40, 39, 39], some (39, true)) :: (some 164, [39, 41], none) :: (some 2, [42, 41, 0, 1, 2, 3, 4, 5, 6, 7, 8, 9, 10, 11, 12, 13, 14, 15, 16, 17, 18, 19, 20, 21, 22, 23, 24, 25, 26, 27, 28, 29, 30, 31, 32, 33, 34, 35, 36, 37, 38, 39, 40, 41, 42], none) :: []), (0 :: 1 :: 3 :: 7 :: 3 :: 19 :: 51 :: 115 :: 243 :: 499 :: 1023 :: 2047 :: 4095 :: 8191 :: 16383 :: 32767 :: 65535 :: 131071 :: 262143 :: 524287 :: 1048575 :: 2097151 :: 4194303 :: 8388607 :: 16777215 :: 33554431 :: 67108863 :: 134217727 :: 268435455 :: 536870911 :: 1073741823 :: 2147483647 :: 4294967295 :: 8589934591 :: 17179869183 :: 34359738367 :: 68719476735 :: 137438953471 :: 274877906943 :: 549755813887 :: 1099511627775 :: 2199023255551 :: 4398046511103 :: 8796093022207 :: []), (true :: true :: true :: true :: true :: true :: true :: true :: true :: true :: true :: true :: true :: true :: true :: true :: true :: true :: true :: true :: true :: true :: true :: true :: true :: true :: true :: true :: true :: true :: true :: true :: true :: true :: true :: true :: true :: true :: true :: true :: true :: true :: true :: true :: []), [], 0⟩ 44 165 ((0, 122) :: (1, 123) :: (2, 124) :: (3, 125) :: (4, 126) :: (5, 127) :: (6, 128) :: (7, 129) :: (8, 130) :: (9, 131) :: (10, 132) :: (11, 133) :: (12, 134) :: (13, 135) :: (14, 136) :: (15, 137) :: (16, 138) :: (17, 139) :: (18, 140) :: (19, 141) :: (20, 142) :: (21, 143) :: (22, 144) :: (23, 145) :: (24, 146) :: (25, 147) :: (26, 148) :: (27, 149) :: (28, 150) :: (29, 151) :: (30, 152) :: (31, 153) :: (32, 154) :: (33, 155) :: (34, 156) :: (35, 157) :: (36, 158) :: (37, 159) :: (38, 160) :: (39, 161) :: (40, 162) :: (41, 163) :: (42, 164) :: (43, 2) :: []) ((0, 122) :: (1, 123) :: (2, 124) :: (3, 125) :: (4, 126) :: (5, 127) :: (6, 128) :: (7, 129) :: (8, 130) :: (9, 131) :: (10, 132) :: (11, 133) :: (12, 134) :: (13, 135) :: (14, 136) :: (15, 137) :: (16, 138) :: (17, 139) :: (18, 140) :: (19, 141) :: (20, 142) :: (21, 143) :: (22, 144) :: (23, 145) :: (24, 146) :: (25, 147) :: (26, 148) :: (27, 149) :: (28, 150) :: (29, 151) :: (30, 152) :: (31, 153) :: (32, 154) :: (33, 155) :: (34, 156) :: (35, 157) :: (36, 158) :: (37, 159) :: (38, 160) :: (39, 161) :: (40, 162) :: (41, 163) :: (42, 164) :: (43, 2) :: []) (.det _ :: .det _ :: .det _ :: .det _ :: .det _ :: .det _ :: .det _ :: .det _ :: .det _ :: .det _ :: .det _ :: .det _ :: .det _ :: .det _ :: .det _ :: .det _ :: .det _ :: .det _ :: .det _ :: .det _ :: .det _ :: .det _ :: .det _ :: .det _ :: .det _ :: .det _ :: .det _ :: .det _ :: .det _ :: .det _ :: .det _ :: .det _ :: .det _ :: .det _ :: .det _ :: .det _ :: .det _ :: .det _ :: .det _ :: .det _ :: .det _ :: .det _ :: .det _ :: .det _ :: []) (by kernel_rfl) (by kernel_rfl) (by kernel_rfl) rfl (by kernel_rfl) (by kernel_rfl) rfl (by kernel_rfl) ?hone ?hend
     case hone =>
      intro CS frS VS hCS ha hV
      have qs5 := slot_val (t := 5) ha rfl
      simp only [List.getElem_toArray, List.getElem_cons_succ, List.getElem_cons_zero] at qs5
      have qs6 := slot_val (t := 6) ha rfl
      simp only [List.getElem_toArray, List.getElem_cons_succ, List.getElem_cons_zero] at qs6
      have qs7 := slot_val (t := 7) ha rfl
      simp only [List.getElem_toArray, List.getElem_cons_succ, List.getElem_cons_zero] at qs7
      have qs9 := slot_val (t := 9) ha rfl
      simp only [List.getElem_toArray, List.getElem_cons_succ, List.getElem_cons_zero] at qs9
      have qs10 := slot_val (t := 10) ha rfl
      simp only [List.getElem_toArray, List.getElem_cons_succ, List.getElem_cons_zero] at qs10
      have qs12 := slot_val (t := 12) ha rfl
      simp only [List.getElem_toArray, List.getElem_cons_succ, List.getElem_cons_zero] at qs12
      have HCS := Lib.hid hCS
      have HVS := Lib.hid hV
      clear ha hCS hV
      refine sure_det (js := []) (ts := [7]) (gd := none) (place_at HVS.out (k := 0) rfl) (by rw [HCS.out]; kernel_rfl) ?_ ?_
      ·intro wx hx ρ hρ hs hf; have hρc := hρ.const; have hρf := hρ.func
       obtain ⟨fx7, -⟩ := hf; rw [qs7] at fx7
       clear hs
       clear HCS HVS qs5 qs6 qs7 qs9 qs10 qs12
       refine run_plain ?_
       refine op_move rfl fx7 ?_
       exact detK.mk
      refine sure_det (js := [(0, 122)]) (ts := []) (gd := none) (place_at HVS.out (k := 1) rfl) (by rw [HCS.out]; kernel_rfl) ?_ ?_
      ·intro wx hx ρ hρ hs hf; have hρc := hρ.const; have hρf := hρ.func; obtain ⟨sn0, -⟩ := hs; rw [place_at HVS.out (k := 0) rfl] at sn0; replace sn0 : ρ (.tmp 122) = _ := sn0
       clear hf
       clear HCS HVS qs5 qs6 qs7 qs9 qs10 qs12
       refine run_plain ?_
       refine op_move rfl sn0 ?_
       exact detK.mk
      refine sure_det (js := [(1, 123)]) (ts := [10]) (gd := (some (123, true))) (place_at HVS.out (k := 2) rfl) (by rw [HCS.out]; kernel_rfl) ?_ ?_
      ·intro wx hx ρ hρ hs hf; have hρc := hρ.const; have hρf := hρ.func; obtain ⟨sn1, -⟩ := hs
       obtain ⟨fx10, -⟩ := hf; rw [qs10] at fx10; rw [place_at HVS.out (k := 1) rfl] at sn1; replace sn1 : ρ (.tmp 123) = _ := sn1
       clear HCS HVS qs5 qs6 qs7 qs9 qs10 qs12
       first
        | (refine run_passed sn1 ?_; exact detK.mk)
        | (refine run_undef sn1 ?_; exact detK.mk)
        | (refine run_guarded sn1 ?_; unfold runs; go_simp; exact detK.mk)
      refine sure_det (js := [(2, 124), (1, 123)]) (ts := []) (gd := (some (123, true))) (place_at HVS.out (k := 3) rfl) (by rw [HCS.out]; kernel_rfl) ?_ ?_
      ·intro wx hx ρ hρ hs hf; have hρc := hρ.const; have hρf := hρ.func; obtain ⟨sn2, sn1, -⟩ := hs; rw [place_at HVS.out (k := 2) rfl] at sn2; replace sn2 : ρ (.tmp 124) = _ := sn2; rw [place_at HVS.out (k := 1) rfl] at sn1; replace sn1 : ρ (.tmp 123) = _ := sn1
       clear hf
       clear HCS HVS qs5 qs6 qs7 qs9 qs10 qs12
       first
        | (refine run_passed sn1 ?_; exact detK.mk)
        | (refine run_undef sn1 ?_; exact detK.mk)
        | (refine run_guarded sn1 ?_; obtain ⟨k0, k1, k2, k3, k4, k5, k6, k7, k8, k9⟩ := hX wx hx.drawn; unfold runs; go_simp; exact detK.mk)
      refine sure_det (js := [(1, 123)]) (ts := [6]) (gd := (some (123, true))) (place_at HVS.out (k := 4) rfl) (by rw [HCS.out]; kernel_rfl) ?_ ?_
      ·intro wx hx ρ hρ hs hf; have hρc := hρ.const; have hρf := hρ.func; obtain ⟨sn1, -⟩ := hs
       obtain ⟨fx6, -⟩ := hf; rw [qs6] at fx6; rw [place_at HVS.out (k := 1) rfl] at sn1; replace sn1 : ρ (.tmp 123) = _ := sn1
       clear HCS HVS qs5 qs6 qs7 qs9 qs10 qs12
       first
        | (refine run_passed sn1 ?_; exact detK.mk)
        | (refine run_undef sn1 ?_; exact detK.mk)
        | (refine run_guarded sn1 ?_; refine op_move rfl fx6 ?_; exact detK.mk)
      refine sure_det (js := [(4, 126), (1, 123)]) (ts := []) (gd := (some (123, true))) (place_at HVS.out (k := 5) rfl) (by rw [HCS.out]; kernel_rfl) ?_ ?_
      ·intro wx hx ρ hρ hs hf; have hρc := hρ.const; have hρf := hρ.func; obtain ⟨sn4, sn1, -⟩ := hs; rw [place_at HVS.out (k := 4) rfl] at sn4; replace sn4 : ρ (.tmp 126) = _ := sn4; rw [place_at HVS.out (k := 1) rfl] at sn1; replace sn1 : ρ (.tmp 123) = _ := sn1
       clear hf
       clear HCS HVS qs5 qs6 qs7 qs9 qs10 qs12
       first
        | (refine run_passed sn1 ?_; exact detK.mk)
        | (refine run_undef sn1 ?_; exact detK.mk)
        | (refine run_guarded sn1 ?_; refine op_move rfl sn4 ?_; exact detK.mk)
      refine sure_det (js := [(5, 127)]) (ts := [5]) (gd := (some (127, true))) (place_at HVS.out (k := 6) rfl) (by rw [HCS.out]; kernel_rfl) ?_ ?_
      ·intro wx hx ρ hρ hs hf; have hρc := hρ.const; have hρf := hρ.func; obtain ⟨sn5, -⟩ := hs
       obtain ⟨fx5, -⟩ := hf; rw [qs5] at fx5; rw [place_at HVS.out (k := 5) rfl] at sn5; replace sn5 : ρ (.tmp 127) = _ := sn5
       clear HCS HVS qs5 qs6 qs7 qs9 qs10 qs12
       first
        | (refine run_passed sn5 ?_; exact detK.mk)
        | (refine run_undef sn5 ?_; exact detK.mk)
        | (refine run_guarded sn5 ?_; unfold runs; go_simp; exact detK.mk)
      refine sure_det (js := [(6, 128), (5, 127)]) (ts := []) (gd := (some (127, true))) (place_at HVS.out (k := 7) rfl) (by rw [HCS.out]; kernel_rfl) ?_ ?_
      ·intro wx hx ρ hρ hs hf; have hρc := hρ.const; have hρf := hρ.func; obtain ⟨sn6, sn5, -⟩ := hs; rw [place_at HVS.out (k := 6) rfl] at sn6; replace sn6 : ρ (.tmp 128) = _ := sn6; rw [place_at HVS.out (k := 5) rfl] at sn5; replace sn5 : ρ (.tmp 127) = _ := sn5
       clear hf
       clear HCS HVS qs5 qs6 qs7 qs9 qs10 qs12
       first
        | (refine run_passed sn5 ?_; exact detK.mk)
        | (refine run_undef sn5 ?_; exact detK.mk)
        | (refine run_guarded sn5 ?_; obtain ⟨k0, k1, k2, k3, k4, k5, k6, k7, k8, k9⟩ := hX wx hx.drawn; unfold runs; go_simp; exact detK.mk)
      refine sure_det (js := [(7, 129), (5, 127)]) (ts := []) (gd := (some (127, true))) (place_at HVS.out (k := 8) rfl) (by rw [HCS.out]; kernel_rfl) ?_ ?_
      ·intro wx hx ρ hρ hs hf; have hρc := hρ.const; have hρf := hρ.func; obtain ⟨sn7, sn5, -⟩ := hs; rw [place_at HVS.out (k := 7) rfl] at sn7; replace sn7 : ρ (.tmp 129) = _ := sn7; rw [place_at HVS.out (k := 5) rfl] at sn5; replace sn5 : ρ (.tmp 127) = _ := sn5
       clear hf
       clear HCS HVS qs5 qs6 qs7 qs9 qs10 qs12
       first
        | (refine run_passed sn5 ?_; exact detK.mk)
        | (refine run_undef sn5 ?_; exact detK.mk)
        | (refine run_guarded sn5 ?_; refine op_call rfl hρ Try.call36 (map_one sn7) ?_; (first | ((with_reducible refine Calls.mono (adisk_any _ _) ?_); rintro e w' ⟨rfl, rfl⟩; refine ⟨_, rfl, ?_⟩; rw [hdk]; exact detK.mk) | ((with_reducible refine Calls.mono (accright_K (hV1.ext (hx2.trans hx.drawn))) ?_); rintro e w' ⟨rfl, hx5⟩; refine ⟨_, rfl, ?_⟩; rw [hXr1]; exact detK.ext hx5)))
      refine sure_det (js := [(5, 127), (8, 130), (1, 123)]) (ts := []) (gd := (some (123, true))) (place_at HVS.out (k := 9) rfl) (by rw [HCS.out]; kernel_rfl) ?_ ?_
      ·intro wx hx ρ hρ hs hf; have hρc := hρ.const; have hρf := hρ.func; obtain ⟨sn5, sn8, sn1, -⟩ := hs; rw [place_at HVS.out (k := 5) rfl] at sn5; replace sn5 : ρ (.tmp 127) = _ := sn5; rw [place_at HVS.out (k := 8) rfl] at sn8; replace sn8 : ρ (.tmp 130) = _ := sn8; rw [place_at HVS.out (k := 1) rfl] at sn1; replace sn1 : ρ (.tmp 123) = _ := sn1
       clear hf
       clear HCS HVS qs5 qs6 qs7 qs9 qs10 qs12
       first
        | (refine run_passed sn1 ?_; exact detK.mk)
        | (refine run_undef sn1 ?_; exact detK.mk)
        | (refine run_guarded sn1 ?_; (first | refine op_pick_t rfl sn5 sn8 ?_ | refine op_pick_f rfl sn5 (hρ.const _) ?_); exact detK.mk)
      refine sure_det (js := [(3, 125), (9, 131), (1, 123)]) (ts := []) (gd := (some (123, true))) (place_at HVS.out (k := 10) rfl) (by rw [HCS.out]; kernel_rfl) ?_ ?_
      ·intro wx hx ρ hρ hs hf; have hρc := hρ.const; have hρf := hρ.func; obtain ⟨sn3, sn9, sn1, -⟩ := hs; rw [place_at HVS.out (k := 3) rfl] at sn3; replace sn3 : ρ (.tmp 125) = _ := sn3; rw [place_at HVS.out (k := 9) rfl] at sn9; replace sn9 : ρ (.tmp 131) = _ := sn9; rw [place_at HVS.out (k := 1) rfl] at sn1; replace sn1 : ρ (.tmp 123) = _ := sn1
       clear hf
       clear HCS HVS qs5 qs6 qs7 qs9 qs10 qs12
       first
        | (refine run_passed sn1 ?_; exact detK.mk)
        | (refine run_undef sn1 ?_; exact detK.mk)
        | (refine run_guarded sn1 ?_; unfold runs; go_simp; exact detK.mk)
      refine sure_det (js := [(1, 123), (10, 132)]) (ts := []) (gd := none) (place_at HVS.out (k := 11) rfl) (by rw [HCS.out]; kernel_rfl) ?_ ?_
      ·intro wx hx ρ hρ hs hf; have hρc := hρ.const; have hρf := hρ.func; obtain ⟨sn1, sn10, -⟩ := hs; rw [place_at HVS.out (k := 1) rfl] at sn1; replace sn1 : ρ (.tmp 123) = _ := sn1; rw [place_at HVS.out (k := 10) rfl] at sn10; replace sn10 : ρ (.tmp 132) = _ := sn10
       clear hf
       clear HCS HVS qs5 qs6 qs7 qs9 qs10 qs12
       refine run_plain ?_
       first | refine op_pick_t rfl sn1 sn10 ?_ | refine op_pick_f rfl sn1 (hρ.const _) ?_
       exact detK.mk
      refine sure_det (js := [(11, 133)]) (ts := []) (gd := none) (place_at HVS.out (k := 12) rfl) (by rw [HCS.out]; kernel_rfl) ?_ ?_
      ·intro wx hx ρ hρ hs hf; have hρc := hρ.const; have hρf := hρ.func; obtain ⟨sn11, -⟩ := hs; rw [place_at HVS.out (k := 11) rfl] at sn11; replace sn11 : ρ (.tmp 133) = _ := sn11
       clear hf
       clear HCS HVS qs5 qs6 qs7 qs9 qs10 qs12
       refine run_plain ?_
       refine op_move rfl sn11 ?_
       exact detK.mk
      refine sure_det (js := [(12, 134)]) (ts := [5]) (gd := (some (134, true))) (place_at HVS.out (k := 13) rfl) (by rw [HCS.out]; kernel_rfl) ?_ ?_
      ·intro wx hx ρ hρ hs hf; have hρc := hρ.const; have hρf := hρ.func; obtain ⟨sn12, -⟩ := hs
       obtain ⟨fx5, -⟩ := hf; rw [qs5] at fx5; rw [place_at HVS.out (k := 12) rfl] at sn12; replace sn12 : ρ (.tmp 134) = _ := sn12
       clear HCS HVS qs5 qs6 qs7 qs9 qs10 qs12
       first
        | (refine run_passed sn12 ?_; exact detK.mk)
        | (refine run_undef sn12 ?_; exact detK.mk)
        | (refine run_guarded sn12 ?_; unfold runs; go_simp; exact detK.mk)
      refine sure_det (js := [(13, 135), (12, 134)]) (ts := []) (gd := (some (134, true))) (place_at HVS.out (k := 14) rfl) (by rw [HCS.out]; kernel_rfl) ?_ ?_
      ·intro wx hx ρ hρ hs hf; have hρc := hρ.const; have hρf := hρ.func; obtain ⟨sn13, sn12, -⟩ := hs; rw [place_at HVS.out (k := 13) rfl] at sn13; replace sn13 : ρ (.tmp 135) = _ := sn13; rw [place_at HVS.out (k := 12) rfl] at sn12; replace sn12 : ρ (.tmp 134) = _ := sn12
       clear hf
       clear HCS HVS qs5 qs6 qs7 qs9 qs10 qs12
       first
        | (refine run_passed sn12 ?_; exact detK.mk)
        | (refine run_undef sn12 ?_; exact detK.mk)
        | (refine run_guarded sn12 ?_; obtain ⟨k0, k1, k2, k3, k4, k5, k6, k7, k8, k9⟩ := hX wx hx.drawn; unfold runs; go_simp; exact detK.mk)
      refine sure_det (js := [(14, 136), (12, 134)]) (ts := []) (gd := (some (134, true))) (place_at HVS.out (k := 15) rfl) (by rw [HCS.out]; kernel_rfl) ?_ ?_
      ·intro wx hx ρ hρ hs hf; have hρc := hρ.const; have hρf := hρ.func; obtain ⟨sn14, sn12, -⟩ := hs; rw [place_at HVS.out (k := 14) rfl] at sn14; replace sn14 : ρ (.tmp 136) = _ := sn14; rw [place_at HVS.out (k := 12) rfl] at sn12; replace sn12 : ρ (.tmp 134) = _ := sn12
       clear hf
       clear HCS HVS qs5 qs6 qs7 qs9 qs10 qs12
       first
        | (refine run_passed sn12 ?_; exact detK.mk)
        | (refine run_undef sn12 ?_; exact detK.mk)
        | (refine run_guarded sn12 ?_; refine op_call rfl hρ Try.call36 (map_one sn14) ?_; (first | ((with_reducible refine Calls.mono (adisk_any _ _) ?_); rintro e w' ⟨rfl, rfl⟩; refine ⟨_, rfl, ?_⟩; rw [hdk]; exact detK.mk) | ((with_reducible refine Calls.mono (accright_K (hV1.ext (hx2.trans hx.drawn))) ?_); rintro e w' ⟨rfl, hx5⟩; refine ⟨_, rfl, ?_⟩; rw [hXr1]; exact detK.ext hx5)))
      refine sure_det (js := [(15, 137), (12, 134)]) (ts := []) (gd := (some (134, true))) (place_at HVS.out (k := 16) rfl) (by rw [HCS.out]; kernel_rfl) ?_ ?_
      ·intro wx hx ρ hρ hs hf; have hρc := hρ.const; have hρf := hρ.func; obtain ⟨sn15, sn12, -⟩ := hs; rw [place_at HVS.out (k := 15) rfl] at sn15; replace sn15 : ρ (.tmp 137) = _ := sn15; rw [place_at HVS.out (k := 12) rfl] at sn12; replace sn12 : ρ (.tmp 134) = _ := sn12
       clear hf
       clear HCS HVS qs5 qs6 qs7 qs9 qs10 qs12
       first
        | (refine run_passed sn12 ?_; exact detK.mk)
        | (refine run_undef sn12 ?_; exact detK.mk)
        | (refine run_guarded sn12 ?_; refine op_move rfl sn15 ?_; exact detK.mk)
      refine sure_det (js := [(16, 138)]) (ts := [12]) (gd := (some (138, false))) (place_at HVS.out (k := 17) rfl) (by rw [HCS.out]; kernel_rfl) ?_ ?_
      ·intro wx hx ρ hρ hs hf; have hρc := hρ.const; have hρf := hρ.func; obtain ⟨sn16, -⟩ := hs
       obtain ⟨fx12, -⟩ := hf; rw [qs12] at fx12; rw [place_at HVS.out (k := 16) rfl] at sn16; replace sn16 : ρ (.tmp 138) = _ := sn16
       clear HCS HVS qs5 qs6 qs7 qs9 qs10 qs12
       first
        | (refine run_passed sn16 ?_; exact detK.mk)
        | (refine run_undef sn16 ?_; exact detK.mk)
        | (refine run_guarded sn16 ?_; refine op_move rfl fx12 ?_; exact detK.mk)
      refine sure_det (js := [(16, 138), (17, 139), (12, 134)]) (ts := []) (gd := (some (134, true))) (place_at HVS.out (k := 18) rfl) (by rw [HCS.out]; kernel_rfl) ?_ ?_
      ·intro wx hx ρ hρ hs hf; have hρc := hρ.const; have hρf := hρ.func; obtain ⟨sn16, sn17, sn12, -⟩ := hs; rw [place_at HVS.out (k := 16) rfl] at sn16; replace sn16 : ρ (.tmp 138) = _ := sn16; rw [place_at HVS.out (k := 17) rfl] at sn17; replace sn17 : ρ (.tmp 139) = _ := sn17; rw [place_at HVS.out (k := 12) rfl] at sn12; replace sn12 : ρ (.tmp 134) = _ := sn12
       clear hf
       clear HCS HVS qs5 qs6 qs7 qs9 qs10 qs12
       first
        | (refine run_passed sn12 ?_; exact detK.mk)
        | (refine run_undef sn12 ?_; exact detK.mk)
        | (refine run_guarded sn12 ?_; (first | refine op_pick_t rfl sn16 (hρ.const _) ?_ | refine op_pick_f rfl sn16 sn17 ?_); exact detK.mk)
      refine sure_det (js := [(12, 134), (18, 140)]) (ts := []) (gd := none) (place_at HVS.out (k := 19) rfl) (by rw [HCS.out]; kernel_rfl) ?_ ?_
      ·intro wx hx ρ hρ hs hf; have hρc := hρ.const; have hρf := hρ.func; obtain ⟨sn12, sn18, -⟩ := hs; rw [place_at HVS.out (k := 12) rfl] at sn12; replace sn12 : ρ (.tmp 134) = _ := sn12; rw [place_at HVS.out (k := 18) rfl] at sn18; replace sn18 : ρ (.tmp 140) = _ := sn18
       clear hf
       clear HCS HVS qs5 qs6 qs7 qs9 qs10 qs12
       refine run_plain ?_
       first | refine op_pick_t rfl sn12 sn18 ?_ | refine op_pick_f rfl sn12 (hρ.const _) ?_
       exact detK.mk
      refine sure_det (js := [(19, 141)]) (ts := []) (gd := none) (place_at HVS.out (k := 20) rfl) (by rw [HCS.out]; kernel_rfl) ?_ ?_
      ·intro wx hx ρ hρ hs hf; have hρc := hρ.const; have hρf := hρ.func; obtain ⟨sn19, -⟩ := hs; rw [place_at HVS.out (k := 19) rfl] at sn19; replace sn19 : ρ (.tmp 141) = _ := sn19
       clear hf
       clear HCS HVS qs5 qs6 qs7 qs9 qs10 qs12
       refine run_plain ?_
       refine op_move rfl sn19 ?_
       exact detK.mk
      refine sure_det (js := [(20, 142)]) (ts := [10]) (gd := (some (142, true))) (place_at HVS.out (k := 21) rfl) (by rw [HCS.out]; kernel_rfl) ?_ ?_
      ·intro wx hx ρ hρ hs hf; have hρc := hρ.const; have hρf := hρ.func; obtain ⟨sn20, -⟩ := hs
       obtain ⟨fx10, -⟩ := hf; rw [qs10] at fx10; rw [place_at HVS.out (k := 20) rfl] at sn20; replace sn20 : ρ (.tmp 142) = _ := sn20
       clear HCS HVS qs5 qs6 qs7 qs9 qs10 qs12
       first
        | (refine run_passed sn20 ?_; exact detK.mk)
        | (refine run_undef sn20 ?_; exact detK.mk)
        | (refine run_guarded sn20 ?_; unfold runs; go_simp; exact detK.mk)
      refine sure_det (js := [(21, 143), (20, 142)]) (ts := []) (gd := (some (142, true))) (place_at HVS.out (k := 22) rfl) (by rw [HCS.out]; kernel_rfl) ?_ ?_
      ·intro wx hx ρ hρ hs hf; have hρc := hρ.const; have hρf := hρ.func; obtain ⟨sn21, sn20, -⟩ := hs; rw [place_at HVS.out (k := 21) rfl] at sn21; replace sn21 : ρ (.tmp 143) = _ := sn21; rw [place_at HVS.out (k := 20) rfl] at sn20; replace sn20 : ρ (.tmp 142) = _ := sn20
       clear hf
       clear HCS HVS qs5 qs6 qs7 qs9 qs10 qs12
       first
        | (refine run_passed sn20 ?_; exact detK.mk)
        | (refine run_undef sn20 ?_; exact detK.mk)
        | (refine run_guarded sn20 ?_; obtain ⟨k0, k1, k2, k3, k4, k5, k6, k7, k8, k9⟩ := hX wx hx.drawn; unfold runs; go_simp; exact detK.mk)
      refine sure_det (js := [(22, 144), (20, 142)]) (ts := []) (gd := (some (142, true))) (place_at HVS.out (k := 23) rfl) (by rw [HCS.out]; kernel_rfl) ?_ ?_
      ·intro wx hx ρ hρ hs hf; have hρc := hρ.const; have hρf := hρ.func; obtain ⟨sn22, sn20, -⟩ := hs; rw [place_at HVS.out (k := 22) rfl] at sn22; replace sn22 : ρ (.tmp 144) = _ := sn22; rw [place_at HVS.out (k := 20) rfl] at sn20; replace sn20 : ρ (.tmp 142) = _ := sn20
       clear hf
       clear HCS HVS qs5 qs6 qs7 qs9 qs10 qs12
       first
        | (refine run_passed sn20 ?_; exact detK.mk)
        | (refine run_undef sn20 ?_; exact detK.mk)
        | (refine run_guarded sn20 ?_; unfold runs; go_simp; exact detK.mk)
      refine sure_det (js := [(23, 145), (20, 142)]) (ts := []) (gd := (some (142, true))) (place_at HVS.out (k := 24) rfl) (by rw [HCS.out]; kernel_rfl) ?_ ?_
      ·intro wx hx ρ hρ hs hf; have hρc := hρ.const; have hρf := hρ.func; obtain ⟨sn23, sn20, -⟩ := hs; rw [place_at HVS.out (k := 23) rfl] at sn23; replace sn23 : ρ (.tmp 145) = _ := sn23; rw [place_at HVS.out (k := 20) rfl] at sn20; replace sn20 : ρ (.tmp 142) = _ := sn20
       clear hf
       clear HCS HVS qs5 qs6 qs7 qs9 qs10 qs12
       first
        | (refine run_passed sn20 ?_; exact detK.mk)
        | (refine run_undef sn20 ?_; exact detK.mk)
        | (refine run_guarded sn20 ?_; refine op_move rfl sn23 ?_; exact detK.mk)
      refine sure_det (js := [(24, 146)]) (ts := [12]) (gd := (some (146, false))) (place_at HVS.out (k := 25) rfl) (by rw [HCS.out]; kernel_rfl) ?_ ?_
      ·intro wx hx ρ hρ hs hf; have hρc := hρ.const; have hρf := hρ.func; obtain ⟨sn24, -⟩ := hs
       obtain ⟨fx12, -⟩ := hf; rw [qs12] at fx12; rw [place_at HVS.out (k := 24) rfl] at sn24; replace sn24 : ρ (.tmp 146) = _ := sn24
       clear HCS HVS qs5 qs6 qs7 qs9 qs10 qs12
       first
        | (refine run_passed sn24 ?_; exact detK.mk)
        | (refine run_undef sn24 ?_; exact detK.mk)
        | (refine run_guarded sn24 ?_; refine op_move rfl fx12 ?_; exact detK.mk)
      refine sure_det (js := [(25, 147), (24, 146)]) (ts := []) (gd := (some (146, false))) (place_at HVS.out (k := 26) rfl) (by rw [HCS.out]; kernel_rfl) ?_ ?_
      ·intro wx hx ρ hρ hs hf; have hρc := hρ.const; have hρf := hρ.func; obtain ⟨sn25, sn24, -⟩ := hs; rw [place_at HVS.out (k := 25) rfl] at sn25; replace sn25 : ρ (.tmp 147) = _ := sn25; rw [place_at HVS.out (k := 24) rfl] at sn24; replace sn24 : ρ (.tmp 146) = _ := sn24
       clear hf
       clear HCS HVS qs5 qs6 qs7 qs9 qs10 qs12
       first
        | (refine run_passed sn24 ?_; exact detK.mk)
        | (refine run_undef sn24 ?_; exact detK.mk)
        | (refine run_guarded sn24 ?_; refine op_move rfl sn25 ?_; exact detK.mk)
      refine sure_det (js := [(26, 148)]) (ts := [10]) (gd := (some (148, true))) (place_at HVS.out (k := 27) rfl) (by rw [HCS.out]; kernel_rfl) ?_ ?_
      ·intro wx hx ρ hρ hs hf; have hρc := hρ.const; have hρf := hρ.func; obtain ⟨sn26, -⟩ := hs
       obtain ⟨fx10, -⟩ := hf; rw [qs10] at fx10; rw [place_at HVS.out (k := 26) rfl] at sn26; replace sn26 : ρ (.tmp 148) = _ := sn26
       clear HCS HVS qs5 qs6 qs7 qs9 qs10 qs12
       first
        | (refine run_passed sn26 ?_; exact detK.mk)
        | (refine run_undef sn26 ?_; exact detK.mk)
        | (refine run_guarded sn26 ?_; unfold runs; go_simp; exact detK.mk)
      refine sure_det (js := [(27, 149), (26, 148)]) (ts := []) (gd := (some (148, true))) (place_at HVS.out (k := 28) rfl) (by rw [HCS.out]; kernel_rfl) ?_ ?_
      ·intro wx hx ρ hρ hs hf; have hρc := hρ.const; have hρf := hρ.func; obtain ⟨sn27, sn26, -⟩ := hs; rw [place_at HVS.out (k := 27) rfl] at sn27; replace sn27 : ρ (.tmp 149) = _ := sn27; rw [place_at HVS.out (k := 26) rfl] at sn26; replace sn26 : ρ (.tmp 148) = _ := sn26
       clear hf
       clear HCS HVS qs5 qs6 qs7 qs9 qs10 qs12
       first
        | (refine run_passed sn26 ?_; exact detK.mk)
        | (refine run_undef sn26 ?_; exact detK.mk)
        | (refine run_guarded sn26 ?_; obtain ⟨k0, k1, k2, k3, k4, k5, k6, k7, k8, k9⟩ := hX wx hx.drawn; unfold runs; go_simp; exact detK.mk)
      refine sure_det (js := [(28, 150), (26, 148)]) (ts := []) (gd := (some (148, true))) (place_at HVS.out (k := 29) rfl) (by rw [HCS.out]; kernel_rfl) ?_ ?_
      ·intro wx hx ρ hρ hs hf; have hρc := hρ.const; have hρf := hρ.func; obtain ⟨sn28, sn26, -⟩ := hs; rw [place_at HVS.out (k := 28) rfl] at sn28; replace sn28 : ρ (.tmp 150) = _ := sn28; rw [place_at HVS.out (k := 26) rfl] at sn26; replace sn26 : ρ (.tmp 148) = _ := sn26
       clear hf
       clear HCS HVS qs5 qs6 qs7 qs9 qs10 qs12
       first
        | (refine run_passed sn26 ?_; exact detK.mk)
        | (refine run_undef sn26 ?_; exact detK.mk)
        | (refine run_guarded sn26 ?_; unfold runs; go_simp; exact detK.mk)
      refine sure_det (js := [(29, 151), (26, 148)]) (ts := []) (gd := (some (148, true))) (place_at HVS.out (k := 30) rfl) (by rw [HCS.out]; kernel_rfl) ?_ ?_
      ·intro wx hx ρ hρ hs hf; have hρc := hρ.const; have hρf := hρ.func; obtain ⟨sn29, sn26, -⟩ := hs; rw [place_at HVS.out (k := 29) rfl] at sn29; replace sn29 : ρ (.tmp 151) = _ := sn29; rw [place_at HVS.out (k := 26) rfl] at sn26; replace sn26 : ρ (.tmp 148) = _ := sn26
       clear hf
       clear HCS HVS qs5 qs6 qs7 qs9 qs10 qs12
       first
        | (refine run_passed sn26 ?_; exact detK.mk)
        | (refine run_undef sn26 ?_; exact detK.mk)
        | (refine run_guarded sn26 ?_; unfold runs; go_simp; exact detK.mk)
      refine sure_det (js := [(26, 148), (30, 152), (24, 146)]) (ts := []) (gd := (some (146, false))) (place_at HVS.out (k := 31) rfl) (by rw [HCS.out]; kernel_rfl) ?_ ?_
      ·intro wx hx ρ hρ hs hf; have hρc := hρ.const; have hρf := hρ.func; obtain ⟨sn26, sn30, sn24, -⟩ := hs; rw [place_at HVS.out (k := 26) rfl] at sn26; replace sn26 : ρ (.tmp 148) = _ := sn26; rw [place_at HVS.out (k := 30) rfl] at sn30; replace sn30 : ρ (.tmp 152) = _ := sn30; rw [place_at HVS.out (k := 24) rfl] at sn24; replace sn24 : ρ (.tmp 146) = _ := sn24
       clear hf
       clear HCS HVS qs5 qs6 qs7 qs9 qs10 qs12
       first
        | (refine run_passed sn24 ?_; exact detK.mk)
        | (refine run_undef sn24 ?_; exact detK.mk)
        | (refine run_guarded sn24 ?_; (first | refine op_pick_t rfl sn26 sn30 ?_ | refine op_pick_f rfl sn26 (hρ.const _) ?_); exact detK.mk)
      refine sure_det (js := [(31, 153), (24, 146)]) (ts := []) (gd := (some (146, false))) (place_at HVS.out (k := 32) rfl) (by rw [HCS.out]; kernel_rfl) ?_ ?_
      ·intro wx hx ρ hρ hs hf; have hρc := hρ.const; have hρf := hρ.func; obtain ⟨sn31, sn24, -⟩ := hs; rw [place_at HVS.out (k := 31) rfl] at sn31; replace sn31 : ρ (.tmp 153) = _ := sn31; rw [place_at HVS.out (k := 24) rfl] at sn24; replace sn24 : ρ (.tmp 146) = _ := sn24
       clear hf
       clear HCS HVS qs5 qs6 qs7 qs9 qs10 qs12
       first
        | (refine run_passed sn24 ?_; exact detK.mk)
        | (refine run_undef sn24 ?_; exact detK.mk)
        | (refine run_guarded sn24 ?_; refine op_move rfl sn31 ?_; exact detK.mk)
      refine sure_det (js := [(32, 154)]) (ts := [10]) (gd := (some (154, true))) (place_at HVS.out (k := 33) rfl) (by rw [HCS.out]; kernel_rfl) ?_ ?_
      ·intro wx hx ρ hρ hs hf; have hρc := hρ.const; have hρf := hρ.func; obtain ⟨sn32, -⟩ := hs
       obtain ⟨fx10, -⟩ := hf; rw [qs10] at fx10; rw [place_at HVS.out (k := 32) rfl] at sn32; replace sn32 : ρ (.tmp 154) = _ := sn32
       clear HCS HVS qs5 qs6 qs7 qs9 qs10 qs12
       first
        | (refine run_passed sn32 ?_; exact detK.mk)
        | (refine run_undef sn32 ?_; exact detK.mk)
        | (refine run_guarded sn32 ?_; unfold runs; go_simp; exact detK.mk)
      refine sure_det (js := [(33, 155), (32, 154)]) (ts := []) (gd := (some (154, true))) (place_at HVS.out (k := 34) rfl) (by rw [HCS.out]; kernel_rfl) ?_ ?_
      ·intro wx hx ρ hρ hs hf; have hρc := hρ.const; have hρf := hρ.func; obtain ⟨sn33, sn32, -⟩ := hs; rw [place_at HVS.out (k := 33) rfl] at sn33; replace sn33 : ρ (.tmp 155) = _ := sn33; rw [place_at HVS.out (k := 32) rfl] at sn32; replace sn32 : ρ (.tmp 154) = _ := sn32
       clear hf
       clear HCS HVS qs5 qs6 qs7 qs9 qs10 qs12
       first
        | (refine run_passed sn32 ?_; exact detK.mk)
        | (refine run_undef sn32 ?_; exact detK.mk)
        | (refine run_guarded sn32 ?_; obtain ⟨k0, k1, k2, k3, k4, k5, k6, k7, k8, k9⟩ := hX wx hx.drawn; unfold runs; go_simp; exact detK.mk)
      refine sure_det (js := [(34, 156), (32, 154)]) (ts := []) (gd := (some (154, true))) (place_at HVS.out (k := 35) rfl) (by rw [HCS.out]; kernel_rfl) ?_ ?_
      ·intro wx hx ρ hρ hs hf; have hρc := hρ.const; have hρf := hρ.func; obtain ⟨sn34, sn32, -⟩ := hs; rw [place_at HVS.out (k := 34) rfl] at sn34; replace sn34 : ρ (.tmp 156) = _ := sn34; rw [place_at HVS.out (k := 32) rfl] at sn32; replace sn32 : ρ (.tmp 154) = _ := sn32
       clear hf
       clear HCS HVS qs5 qs6 qs7 qs9 qs10 qs12
       first
        | (refine run_passed sn32 ?_; exact detK.mk)
        | (refine run_undef sn32 ?_; exact detK.mk)
        | (refine run_guarded sn32 ?_; unfold runs; go_simp; exact detK.mk)
      refine sure_det (js := [(32, 154), (35, 157), (24, 146)]) (ts := []) (gd := (some (146, false))) (place_at HVS.out (k := 36) rfl) (by rw [HCS.out]; kernel_rfl) ?_ ?_
      ·intro wx hx ρ hρ hs hf; have hρc := hρ.const; have hρf := hρ.func; obtain ⟨sn32, sn35, sn24, -⟩ := hs; rw [place_at HVS.out (k := 32) rfl] at sn32; replace sn32 : ρ (.tmp 154) = _ := sn32; rw [place_at HVS.out (k := 35) rfl] at sn35; replace sn35 : ρ (.tmp 157) = _ := sn35; rw [place_at HVS.out (k := 24) rfl] at sn24; replace sn24 : ρ (.tmp 146) = _ := sn24
       clear hf
       clear HCS HVS qs5 qs6 qs7 qs9 qs10 qs12
       first
        | (refine run_passed sn24 ?_; exact detK.mk)
        | (refine run_undef sn24 ?_; exact detK.mk)
        | (refine run_guarded sn24 ?_; (first | refine op_pick_t rfl sn32 sn35 ?_ | refine op_pick_f rfl sn32 (hρ.const _) ?_); exact detK.mk)
      refine sure_det (js := [(24, 146), (36, 158), (20, 142)]) (ts := []) (gd := (some (142, true))) (place_at HVS.out (k := 37) rfl) (by rw [HCS.out]; kernel_rfl) ?_ ?_
      ·intro wx hx ρ hρ hs hf; have hρc := hρ.const; have hρf := hρ.func; obtain ⟨sn24, sn36, sn20, -⟩ := hs; rw [place_at HVS.out (k := 24) rfl] at sn24; replace sn24 : ρ (.tmp 146) = _ := sn24; rw [place_at HVS.out (k := 36) rfl] at sn36; replace sn36 : ρ (.tmp 158) = _ := sn36; rw [place_at HVS.out (k := 20) rfl] at sn20; replace sn20 : ρ (.tmp 142) = _ := sn20
       clear hf
       clear HCS HVS qs5 qs6 qs7 qs9 qs10 qs12
       first
        | (refine run_passed sn20 ?_; exact detK.mk)
        | (refine run_undef sn20 ?_; exact detK.mk)
        | (refine run_guarded sn20 ?_; (first | refine op_pick_t rfl sn24 (hρ.const _) ?_ | refine op_pick_f rfl sn24 sn36 ?_); exact detK.mk)
      refine sure_det (js := [(20, 142), (37, 159)]) (ts := []) (gd := none) (place_at HVS.out (k := 38) rfl) (by rw [HCS.out]; kernel_rfl) ?_ ?_
      ·intro wx hx ρ hρ hs hf; have hρc := hρ.const; have hρf := hρ.func; obtain ⟨sn20, sn37, -⟩ := hs; rw [place_at HVS.out (k := 20) rfl] at sn20; replace sn20 : ρ (.tmp 142) = _ := sn20; rw [place_at HVS.out (k := 37) rfl] at sn37; replace sn37 : ρ (.tmp 159) = _ := sn37
       clear hf
       clear HCS HVS qs5 qs6 qs7 qs9 qs10 qs12
       refine run_plain ?_
       first | refine op_pick_t rfl sn20 sn37 ?_ | refine op_pick_f rfl sn20 (hρ.const _) ?_
       exact detK.mk
      refine sure_det (js := [(38, 160)]) (ts := []) (gd := none) (place_at HVS.out (k := 39) rfl) (by rw [HCS.out]; kernel_rfl) ?_ ?_
      ·intro wx hx ρ hρ hs hf; have hρc := hρ.const; have hρf := hρ.func; obtain ⟨sn38, -⟩ := hs; rw [place_at HVS.out (k := 38) rfl] at sn38; replace sn38 : ρ (.tmp 160) = _ := sn38
       clear hf
       clear HCS HVS qs5 qs6 qs7 qs9 qs10 qs12
       refine run_plain ?_
       refine op_move rfl sn38 ?_
       exact detK.mk
      refine sure_det (js := [(39, 161)]) (ts := [9]) (gd := (some (161, true))) (place_at HVS.out (k := 40) rfl) (by rw [HCS.out]; kernel_rfl) ?_ ?_
      ·intro wx hx ρ hρ hs hf; have hρc := hρ.const; have hρf := hρ.func; obtain ⟨sn39, -⟩ := hs
       obtain ⟨fx9, -⟩ := hf; rw [qs9] at fx9; rw [place_at HVS.out (k := 39) rfl] at sn39; replace sn39 : ρ (.tmp 161) = _ := sn39
       clear HCS HVS qs5 qs6 qs7 qs9 qs10 qs12
       first
        | (refine run_passed sn39 ?_; exact detK.mk)
        | (refine run_undef sn39 ?_; exact detK.mk)
        | (refine run_guarded sn39 ?_; obtain ⟨k0, k1, k2, k3, k4, k5, k6, k7, k8, k9⟩ := hX wx hx.drawn; unfold runs; go_simp; exact detK.mk)
      refine sure_det (js := [(40, 162), (39, 161)]) (ts := []) (gd := (some (161, true))) (place_at HVS.out (k := 41) rfl) (by rw [HCS.out]; kernel_rfl) ?_ ?_
      ·intro wx hx ρ hρ hs hf; have hρc := hρ.const; have hρf := hρ.func; obtain ⟨sn40, sn39, -⟩ := hs; rw [place_at HVS.out (k := 40) rfl] at sn40; replace sn40 : ρ (.tmp 162) = _ := sn40; rw [place_at HVS.out (k := 39) rfl] at sn39; replace sn39 : ρ (.tmp 161) = _ := sn39
       clear hf
       clear HCS HVS qs5 qs6 qs7 qs9 qs10 qs12
       first
        | (refine run_passed sn39 ?_; exact detK.mk)
        | (refine run_undef sn39 ?_; exact detK.mk)
        | (refine run_guarded sn39 ?_; refine op_call rfl hρ Try.call35 (map_one sn40) ?_; (first | ((with_reducible refine Calls.mono (adisk_any _ _) ?_); rintro e w' ⟨rfl, rfl⟩; refine ⟨_, rfl, ?_⟩; rw [hdk]; exact detK.mk) | ((with_reducible refine Calls.mono (accright_K (hV1.ext (hx2.trans hx.drawn))) ?_); rintro e w' ⟨rfl, hx5⟩; refine ⟨_, rfl, ?_⟩; rw [hXr1]; exact detK.ext hx5)))
      refine sure_det (js := [(39, 161), (41, 163)]) (ts := []) (gd := none) (place_at HVS.out (k := 42) rfl) (by rw [HCS.out]; kernel_rfl) ?_ ?_
      ·intro wx hx ρ hρ hs hf; have hρc := hρ.const; have hρf := hρ.func; obtain ⟨sn39, sn41, -⟩ := hs; rw [place_at HVS.out (k := 39) rfl] at sn39; replace sn39 : ρ (.tmp 161) = _ := sn39; rw [place_at HVS.out (k := 41) rfl] at sn41; replace sn41 : ρ (.tmp 163) = _ := sn41
       clear hf
       clear HCS HVS qs5 qs6 qs7 qs9 qs10 qs12
       refine run_plain ?_
       first | refine op_pick_t rfl sn39 sn41 ?_ | refine op_pick_f rfl sn39 (hρ.const _) ?_
       exact detK.mk
      refine sure_det (js := [(42, 164)]) (ts := []) (gd := none) (place_at HVS.out (k := 43) rfl) (by rw [HCS.out]; kernel_rfl) ?_ ?_
      ·intro wx hx ρ hρ hs hf; have hρc := hρ.const; have hρf := hρ.func; obtain ⟨sn42, -⟩ := hs; rw [place_at HVS.out (k := 42) rfl] at sn42; replace sn42 : ρ (.tmp 164) = _ := sn42
       clear hf
       clear HCS HVS qs5 qs6 qs7 qs9 qs10 qs12
       refine run_plain ?_
       refine op_assign rfl sn42 ?_
       exact detK.mk
      exact trivial
     case hend =>
      intro xs wx hx hg
      have gk0 : xs 0 = _ := goods_get hg (i := 0) (j := 0) (d := 122) rfl
      have gk1 : xs 1 = _ := goods_get hg (i := 1) (j := 1) (d := 123) rfl
      have gk2 : xs 2 = _ := goods_get hg (i := 2) (j := 2) (d := 124) rfl
      have gk3 : xs 3 = _ := goods_get hg (i := 3) (j := 3) (d := 125) rfl
      have gk4 : xs 4 = _ := goods_get hg (i := 4) (j := 4) (d := 126) rfl
      have gk5 : xs 5 = _ := goods_get hg (i := 5) (j := 5) (d := 127) rfl
      have gk6 : xs 6 = _ := goods_get hg (i := 6) (j := 6) (d := 128) rfl
      have gk7 : xs 7 = _ := goods_get hg (i := 7) (j := 7) (d := 129) rfl
      have gk8 : xs 8 = _ := goods_get hg (i := 8) (j := 8) (d := 130) rfl
      have gk9 : xs 9 = _ := goods_get hg (i := 9) (j := 9) (d := 131) rfl
      have gk10 : xs 10 = _ := goods_get hg (i := 10) (j := 10) (d := 132) rfl
      have gk11 : xs 11 = _ := goods_get hg (i := 11) (j := 11) (d := 133) rfl
      have gk12 : xs 12 = _ := goods_get hg (i := 12) (j := 12) (d := 134) rfl
      have gk13 : xs 13 = _ := goods_get hg (i := 13) (j := 13) (d := 135) rfl
      have gk14 : xs 14 = _ := goods_get hg (i := 14) (j := 14) (d := 136) rfl
      have gk15 : xs 15 = _ := goods_get hg (i := 15) (j := 15) (d := 137) rfl
      have gk16 : xs 16 = _ := goods_get hg (i := 16) (j := 16) (d := 138) rfl
      have gk17 : xs 17 = _ := goods_get hg (i := 17) (j := 17) (d := 139) rfl
      have gk18 : xs 18 = _ := goods_get hg (i := 18) (j := 18) (d := 140) rfl
      have gk19 : xs 19 = _ := goods_get hg (i := 19) (j := 19) (d := 141) rfl
      have gk20 : xs 20 = _ := goods_get hg (i := 20) (j := 20) (d := 142) rfl
      have gk21 : xs 21 = _ := goods_get hg (i := 21) (j := 21) (d := 143) rfl
      have gk22 : xs 22 = _ := goods_get hg (i := 22) (j := 22) (d := 144) rfl
      have gk23 : xs 23 = _ := goods_get hg (i := 23) (j := 23) (d := 145) rfl
      have gk24 : xs 24 = _ := goods_get hg (i := 24) (j := 24) (d := 146) rfl
      have gk25 : xs 25 = _ := goods_get hg (i := 25) (j := 25) (d := 147) rfl
      have gk26 : xs 26 = _ := goods_get hg (i := 26) (j := 26) (d := 148) rfl
      have gk27 : xs 27 = _ := goods_get hg (i := 27) (j := 27) (d := 149) rfl
      have gk28 : xs 28 = _ := goods_get hg (i := 28) (j := 28) (d := 150) rfl
      have gk29 : xs 29 = _ := goods_get hg (i := 29) (j := 29) (d := 151) rfl
      have gk30 : xs 30 = _ := goods_get hg (i := 30) (j := 30) (d := 152) rfl
      have gk31 : xs 31 = _ := goods_get hg (i := 31) (j := 31) (d := 153) rfl
      have gk32 : xs 32 = _ := goods_get hg (i := 32) (j := 32) (d := 154) rfl
      have gk33 : xs 33 = _ := goods_get hg (i := 33) (j := 33) (d := 155) rfl
      have gk34 : xs 34 = _ := goods_get hg (i := 34) (j := 34) (d := 156) rfl
      have gk35 : xs 35 = _ := goods_get hg (i := 35) (j := 35) (d := 157) rfl
      have gk36 : xs 36 = _ := goods_get hg (i := 36) (j := 36) (d := 158) rfl
      have gk37 : xs 37 = _ := goods_get hg (i := 37) (j := 37) (d := 159) rfl
      have gk38 : xs 38 = _ := goods_get hg (i := 38) (j := 38) (d := 160) rfl
      have gk39 : xs 39 = _ := goods_get hg (i := 39) (j := 39) (d := 161) rfl
      have gk40 : xs 40 = _ := goods_get hg (i := 40) (j := 40) (d := 162) rfl
      have gk41 : xs 41 = _ := goods_get hg (i := 41) (j := 41) (d := 163) rfl
      have gk42 : xs 42 = _ := goods_get hg (i := 42) (j := 42) (d := 164) rfl
      have gk43 : xs 43 = _ := goods_get hg (i := 43) (j := 43) (d := 2) rfl
      clear hg
      simp only [putAll, gk0, gk1, gk2, gk3, gk4, gk5, gk6, gk7, gk8, gk9, gk10, gk11, gk12, gk13, gk14, gk15, gk16, gk17, gk18, gk19, gk20, gk21, gk22, gk23, gk24, gk25, gk26, gk27, gk28, gk29, gk30, gk31, gk32, gk33, gk34, gk35, gk36, gk37, gk38, gk39, gk40, gk41, gk42, gk43]
      clear gk0 gk1 gk2 gk3 gk4 gk5 gk6 gk7 gk8 gk9 gk10 gk11 gk12 gk13 gk14 gk15 gk16 gk17 gk18 gk19 gk20 gk21 gk22 gk23 gk24 gk25 gk26 gk27 gk28 gk29 gk30 gk31 gk32 gk33 gk34 gk35 gk36 gk37 gk38 gk39 gk40 gk41 gk42 gk43
      clear xs
      simp only [Act.put, List.setIfInBounds_toArray, List.set_cons_zero, List.set_cons_succ]
      go_wp2
      go_ret
      exact ⟨rfl, hW.trans (hx2.trans hx.drawn)⟩
    ·have P3 := Lib.hid p3
     have P6 := Lib.hid p6
     have Y1 := Lib.hid y1
     have Y2 := Lib.hid y2
     clear p3 p4 p5 p6 y1 y2
     go_wp2_with fail
     obtain ⟨k1, k2, k3⟩ := P6.out (.inl hdk)
     refine (dsame_eq hV1.dk hV.dk k1 P3.out k2 k3).mono ?_
     rintro e v2 ⟨rfl, hx2⟩
     have hfl : R1.fail = false := by rw [Y1.out, hdk]; rfl
     rw [hfl] at hrx1
     have hX : ∀ wx, Ext v2 wx → wx.cell? ⟨g1 + 1, 0, none⟩ = some (.int .u64 R1.N) ∧ wx.cell? ⟨g1 + 1, 1, none⟩ = some (.slice yS1 ys1 yt1) ∧ wx.cell? ⟨g1 + 1, 2, none⟩ = some (.bool false) ∧ wx.cell? ⟨ga, 0, none⟩ = some (.int .i64 a.kind) ∧ wx.cell? ⟨g1, 0, none⟩ = some (.int .i64 T) ∧ wx.cell? ⟨g1, 1, none⟩ = some (.int .i64 C) ∧ wx.cell? ⟨g1, 2, none⟩ = some (.slice (some a1) j xc1) ∧ wx.cell? ⟨g1, 3, none⟩ = some (.int .u64 X1.R) ∧ wx.cell? ⟨g1, 4, none⟩ = some (.slice xB1 n1 xb1) ∧ wx.cell? ⟨g1, 5, none⟩ = some (.slice xC1 n1 xd1) := fun wx hx =>
      ⟨(hx2.trans hx).cell (by simp [World.cell?, hrx1]), (hx2.trans hx).cell (by simp [World.cell?, hrx1]), (hx2.trans hx).cell (by simp [World.cell?, hrx1]), (hx2.trans hx).cell (by simp [World.cell?, hA]), (hx2.trans hx).cell (by simp [World.cell?, hbx1]), (hx2.trans hx).cell (by simp [World.cell?, hbx1]), (hx2.trans hx).cell (by simp [World.cell?, hbx1]), (hx2.trans hx).cell (by simp [World.cell?, hbx1]), (hx2.trans hx).cell (by simp [World.cell?, hbx1]), (hx2.trans hx).cell (by simp [World.cell?, hbx1])⟩
     clear x0 x1 x2 x3 x4 x5 e0 e1 e2 e3 e4 e5 P3 P6 Y1 Y2 hXw hml hj hfl hs1 hw1 hwz hV hR1 ha hwd hqc hq2 k1 k2 k3
     go_upto_region 18 with (fail)
     refine' wp_region_sure_all ⟨((some 122, [], none) :: (some 123, [0], none) :: (some 124, [1], some (1, true)) :: (some 125, [2, 1], some (1, true)) :: (some 126, [1], some (1, true)) :: (some 127, [4, 1, 1], some (1, true)) :: (some 128, [5], some (5, true)) :: (some 129, [6, 5], some (5, true)) :: (some 130, [7, 5, 5], some (5, true)) :: (some 131, [5, 8, 1], some (1, true)) :: (some 132, [3, 9, 1], some (1, true)) :: (some 133, [1, 10], none) :: (some 134, [11, 8], none) :: (some 135, [12], some (12, true)) :: (some 136, [13, 12], some (12, true)) :: (some 137, [14, 12, 12], some (12, true)) :: (some 138, [15, 15, 12], some (12, true)) :: (some 139, [16], some (16, false)) :: (some 140, [16, 17, 12], some (12, true)) :: (some 141, [12, 18], none) :: (some 142, [19, 16], none) :: (some 143, [20], some (20, true)) :: (some 144, [21, 20], some (20, true)) :: (some 145, [22, 20], some (20, true)) :: (some 146, [23, 20, 20], some (20, true)) :: (some 147, [24], some (24, false)) :: (some 148, [25, 24, 24], some (24, false)) :: (some 149, [26], some (26, true)) :: (some 150, [27, 26], some (26, true)) :: (some 151, [28, 26], some (26, true)) :: (some 152, [29, 26], some (26, true)) :: (some 153, [26, 30, 24], some (24, false)) :: (some 154, [31, 26, 24], some (24, false)) :: (some 155, [32], some (32, true)) :: (some 156, [33, 32], some (32, true)) :: (some 157, [34, 32], some (32, true)) :: (some 158, [32, 35, 24], some (24, false)) :: (some 159, [24, 36, 20], some (20, true)) :: (some 160, [20, 37], none) :: (some 161, [38, 32], none) :: (some 162, [39], some (39, true)) :: (some 163, [40, 39, 39], some (39, true)) :: (some 164, [39, 41], none) :: (some 2, [42, 41, 0, 1, 2, 3, 4, 5, 6, 7, 8, 9, 10, 11, 12, 13, 14, 15, 16, 17, 18, 19, 20, 21, 22, 23, 24, 25, 26, 27, 28, 29, 30, 31, 32, 33, 34, 35, 36, 37, 38, 39, 40, 41, 42], none) :: []), (0 :: 1 :: 3 :: 7 :: 3 :: 19 :: 51 :: 115 :: 243 :: 499 :: 1023 :: 2047 :: 4095 :: 8191 :: 16383 :: 32767 :: 65535 :: 131071 :: 262143 :: 524287 :: 1048575 :: 2097151 :: 4194303 :: 8388607 :: 16777215 :: 33554431 :: 67108863 :: 134217727 :: 268435455 :: 536870911 :: 1073741823 :: 2147483647 :: 4294967295 :: 8589934591 :: 17179869183 :: 34359738367 :: 68719476735 :: 137438953471 :: 274877906943 :: 549755813887 :: 1099511627775 :: 2199023255551 :: 4398046511103 :: 8796093022207 :: []), (true :: true :: true :: true :: true :: true :: true :: true :: true :: true :: true :: true :: true :: true :: true :: true :: true :: true :: true :: true :: true :: true :: true :: true :: true :: true :: true :: true :: true :: true :: true :: true :: true :: true :: true :: true :: true :: true :: true :: true :: true :: true :: true :: true :: []), [], 0⟩ 44 165 ((0, 122) :: (1, 123) :: (2, 124) :: (3, 125) :: (4, 126) :: (5, 127) :: (6, 128) :: (7, 129) :: (8, 130) :: (9, 131) :: (10, 132) :: (11, 133) :: (12, 134) :: (13, 135) :: (14, 136) :: (15, 137) :: (16, 138) :: (17, 139) :: (18, 140) :: (19, 141) :: (20, 142) :: (21, 143) :: (22, 144) :: (23, 145) :: (24, 146) :: (25, 147) :: (26, 148) :: (27, 149) :: (28, 150) :: (29, 151) :: (30, 152) :: (31, 153) :: (32, 154) :: (33, 155) :: (34, 156) :: (35, 157) :: (36, 158) :: (37, 159) :: (38, 160) :: (39, 161) :: (40, 162) :: (41, 163) :: (42, 164) :: (43, 2) :: []) ((0, 122) :: (1, 123) :: (2, 124) :: (3, 125) :: (4, 126) :: (5, 127) :: (6, 128) :: (7, 129) :: (8, 130) :: (9, 131) :: (10, 132) :: (11, 133) :: (12, 134) :: (13, 135) :: (14, 136) :: (15, 137) :: (16, 138) :: (17, 139) :: (18, 140) :: (19, 141) :: (20, 142) :: (21, 143) :: (22, 144) :: (23, 145) :: (24, 146) :: (25, 147) :: (26, 148) :: (27, 149) :: (28, 150) :: (29, 151) :: (30, 152) :: (31, 153) :: (32, 154) :: (33, 155) :: (34, 156) :: (35, 157) :: (36, 158) :: (37, 159) :: (38, 160) :: (39, 161) :: (40, 162) :: (41, 163) :: (42, 164) :: (43, 2) :: []) (.det _ :: .det _ :: .det _ :: .det _ :: .det _ :: .det _ :: .det _ :: .det _ :: .det _ :: .det _ :: .det _ :: .det _ :: .det _ :: .det _ :: .det _ :: .det _ :: .det _ :: .det _ :: .det _ :: .det _ :: .det _ :: .det _ :: .det _ :: .det _ :: .det _ :: .det _ :: .det _ :: .det _ :: .det _ :: .det _ :: .det _ :: .det _ :: .det _ :: .det _ :: .det _ :: .det _ :: .det _ :: .det _ :: .det _ :: .det _ :: .det _ :: .det _ :: .det _ :: .det _ :: []) (by kernel_rfl) (by kernel_rfl) (by kernel_rfl) rfl (by kernel_rfl) (by kernel_rfl) rfl (by kernel_rfl) ?hone ?hend
     case hone =>
      intro CS frS VS hCS ha hV
      have qs5 := slot_val (t := 5) ha rfl
      simp only [List.getElem_toArray, List.getElem_cons_succ, List.getElem_cons_zero] at qs5
      have qs6 := slot_val (t := 6) ha rfl
      simp only [List.getElem_toArray, List.getElem_cons_succ, List.getElem_cons_zero] at qs6
      have qs7 := slot_val (t := 7) ha rfl
      simp only [List.getElem_toArray, List.getElem_cons_succ, List.getElem_cons_zero] at qs7
      have qs9 := slot_val (t := 9) ha rfl
      simp only [List.getElem_toArray, List.getElem_cons_succ, List.getElem_cons_zero] at qs9
      have qs10 := slot_val (t := 10) ha rfl
      simp only [List.getElem_toArray, List.getElem_cons_succ, List.getElem_cons_zero] at qs10
      have qs12 := slot_val (t := 12) ha rfl
      simp only [List.getElem_toArray, List.getElem_cons_succ, List.getElem_cons_zero] at qs12
      have HCS := Lib.hid hCS
      have HVS := Lib.hid hV
      clear ha hCS hV
      refine sure_det (js := []) (ts := [7]) (gd := none) (place_at HVS.out (k := 0) rfl) (by rw [HCS.out]; kernel_rfl) ?_ ?_
      ·intro wx hx ρ hρ hs hf; have hρc := hρ.const; have hρf := hρ.func
       obtain ⟨fx7, -⟩ := hf; rw [qs7] at fx7
       clear hs
       clear HCS HVS qs5 qs6 qs7 qs9 qs10 qs12
       refine run_plain ?_
       refine op_move rfl fx7 ?_
       exact detK.mk
      refine sure_det (js := [(0, 122)]) (ts := []) (gd := none) (place_at HVS.out (k := 1) rfl) (by rw [HCS.out]; kernel_rfl) ?_ ?_
      ·intro wx hx ρ hρ hs hf; have hρc := hρ.const; have hρf := hρ.func; obtain ⟨sn0, -⟩ := hs; rw [place_at HVS.out (k := 0) rfl] at sn0; replace sn0 : ρ (.tmp 122) = _ := sn0
       clear hf
       clear HCS HVS qs5 qs6 qs7 qs9 qs10 qs12
       refine run_plain ?_
       refine op_move rfl sn0 ?_
       exact detK.mk
      refine sure_det (js := [(1, 123)]) (ts := [10]) (gd := (some (123, true))) (place_at HVS.out (k := 2) rfl) (by rw [HCS.out]; kernel_rfl) ?_ ?_
      ·intro wx hx ρ hρ hs hf; have hρc := hρ.const; have hρf := hρ.func; obtain ⟨sn1, -⟩ := hs
       obtain ⟨fx10, -⟩ := hf; rw [qs10] at fx10; rw [place_at HVS.out (k := 1) rfl] at sn1; replace sn1 : ρ (.tmp 123) = _ := sn1
       clear HCS HVS qs5 qs6 qs7 qs9 qs10 qs12
       first
        | (refine run_passed sn1 ?_; exact detK.mk)
        | (refine run_undef sn1 ?_; exact detK.mk)
        | (refine run_guarded sn1 ?_; unfold runs; go_simp; exact detK.mk)
      refine sure_det (js := [(2, 124), (1, 123)]) (ts := []) (gd := (some (123, true))) (place_at HVS.out (k := 3) rfl) (by rw [HCS.out]; kernel_rfl) ?_ ?_
      ·intro wx hx ρ hρ hs hf; have hρc := hρ.const; have hρf := hρ.func; obtain ⟨sn2, sn1, -⟩ := hs; rw [place_at HVS.out (k := 2) rfl] at sn2; replace sn2 : ρ (.tmp 124) = _ := sn2; rw [place_at HVS.out (k := 1) rfl] at sn1; replace sn1 : ρ (.tmp 123) = _ := sn1
       clear hf
       clear HCS HVS qs5 qs6 qs7 qs9 qs10 qs12
       first
        | (refine run_passed sn1 ?_; exact detK.mk)
        | (refine run_undef sn1 ?_; exact detK.mk)
        | (refine run_guarded sn1 ?_; obtain ⟨k0, k1, k2, k3, k4, k5, k6, k7, k8, k9⟩ := hX wx hx.drawn; unfold runs; go_simp; exact detK.mk)
      refine sure_det (js := [(1, 123)]) (ts := [6]) (gd := (some (123, true))) (place_at HVS.out (k := 4) rfl) (by rw [HCS.out]; kernel_rfl) ?_ ?_
      ·intro wx hx ρ hρ hs hf; have hρc := hρ.const; have hρf := hρ.func; obtain ⟨sn1, -⟩ := hs
       obtain ⟨fx6, -⟩ := hf; rw [qs6] at fx6; rw [place_at HVS.out (k := 1) rfl] at sn1; replace sn1 : ρ (.tmp 123) = _ := sn1
       clear HCS HVS qs5 qs6 qs7 qs9 qs10 qs12
       first
        | (refine run_passed sn1 ?_; exact detK.mk)
        | (refine run_undef sn1 ?_; exact detK.mk)
        | (refine run_guarded sn1 ?_; refine op_move rfl fx6 ?_; exact detK.mk)
      refine sure_det (js := [(4, 126), (1, 123)]) (ts := []) (gd := (some (123, true))) (place_at HVS.out (k := 5) rfl) (by rw [HCS.out]; kernel_rfl) ?_ ?_
      ·intro wx hx ρ hρ hs hf; have hρc := hρ.const; have hρf := hρ.func; obtain ⟨sn4, sn1, -⟩ := hs; rw [place_at HVS.out (k := 4) rfl] at sn4; replace sn4 : ρ (.tmp 126) = _ := sn4; rw [place_at HVS.out (k := 1) rfl] at sn1; replace sn1 : ρ (.tmp 123) = _ := sn1
       clear hf
       clear HCS HVS qs5 qs6 qs7 qs9 qs10 qs12
       first
        | (refine run_passed sn1 ?_; exact detK.mk)
        | (refine run_undef sn1 ?_; exact detK.mk)
        | (refine run_guarded sn1 ?_; refine op_move rfl sn4 ?_; exact detK.mk)
      refine sure_det (js := [(5, 127)]) (ts := [5]) (gd := (some (127, true))) (place_at HVS.out (k := 6) rfl) (by rw [HCS.out]; kernel_rfl) ?_ ?_
      ·intro wx hx ρ hρ hs hf; have hρc := hρ.const; have hρf := hρ.func; obtain ⟨sn5, -⟩ := hs
       obtain ⟨fx5, -⟩ := hf; rw [qs5] at fx5; rw [place_at HVS.out (k := 5) rfl] at sn5; replace sn5 : ρ (.tmp 127) = _ := sn5
       clear HCS HVS qs5 qs6 qs7 qs9 qs10 qs12
       first
        | (refine run_passed sn5 ?_; exact detK.mk)
        | (refine run_undef sn5 ?_; exact detK.mk)
        | (refine run_guarded sn5 ?_; unfold runs; go_simp; exact detK.mk)
      refine sure_det (js := [(6, 128), (5, 127)]) (ts := []) (gd := (some (127, true))) (place_at HVS.out (k := 7) rfl) (by rw [HCS.out]; kernel_rfl) ?_ ?_
      ·intro wx hx ρ hρ hs hf; have hρc := hρ.const; have hρf := hρ.func; obtain ⟨sn6, sn5, -⟩ := hs; rw [place_at HVS.out (k := 6) rfl] at sn6; replace sn6 : ρ (.tmp 128) = _ := sn6; rw [place_at HVS.out (k := 5) rfl] at sn5; replace sn5 : ρ (.tmp 127) = _ := sn5
       clear hf
       clear HCS HVS qs5 qs6 qs7 qs9 qs10 qs12
       first
        | (refine run_passed sn5 ?_; exact detK.mk)
        | (refine run_undef sn5 ?_; exact detK.mk)
        | (refine run_guarded sn5 ?_; obtain ⟨k0, k1, k2, k3, k4, k5, k6, k7, k8, k9⟩ := hX wx hx.drawn; unfold runs; go_simp; exact detK.mk)
      refine sure_det (js := [(7, 129), (5, 127)]) (ts := []) (gd := (some (127, true))) (place_at HVS.out (k := 8) rfl) (by rw [HCS.out]; kernel_rfl) ?_ ?_
      ·intro wx hx ρ hρ hs hf; have hρc := hρ.const; have hρf := hρ.func; obtain ⟨sn7, sn5, -⟩ := hs; rw [place_at HVS.out (k := 7) rfl] at sn7; replace sn7 : ρ (.tmp 129) = _ := sn7; rw [place_at HVS.out (k := 5) rfl] at sn5; replace sn5 : ρ (.tmp 127) = _ := sn5
       clear hf
       clear HCS HVS qs5 qs6 qs7 qs9 qs10 qs12
       first
        | (refine run_passed sn5 ?_; exact detK.mk)
        | (refine run_undef sn5 ?_; exact detK.mk)
        | (refine run_guarded sn5 ?_; refine op_call rfl hρ Try.call36 (map_one sn7) ?_; (first | ((with_reducible refine Calls.mono (adisk_any _ _) ?_); rintro e w' ⟨rfl, rfl⟩; refine ⟨_, rfl, ?_⟩; rw [hdk]; exact detK.mk) | ((with_reducible refine Calls.mono (accright_K (hV1.ext (hx2.trans hx.drawn))) ?_); rintro e w' ⟨rfl, hx5⟩; refine ⟨_, rfl, ?_⟩; rw [hXr1]; exact detK.ext hx5)))
      refine sure_det (js := [(5, 127), (8, 130), (1, 123)]) (ts := []) (gd := (some (123, true))) (place_at HVS.out (k := 9) rfl) (by rw [HCS.out]; kernel_rfl) ?_ ?_
      ·intro wx hx ρ hρ hs hf; have hρc := hρ.const; have hρf := hρ.func; obtain ⟨sn5, sn8, sn1, -⟩ := hs; rw [place_at HVS.out (k := 5) rfl] at sn5; replace sn5 : ρ (.tmp 127) = _ := sn5; rw [place_at HVS.out (k := 8) rfl] at sn8; replace sn8 : ρ (.tmp 130) = _ := sn8; rw [place_at HVS.out (k := 1) rfl] at sn1; replace sn1 : ρ (.tmp 123) = _ := sn1
       clear hf
       clear HCS HVS qs5 qs6 qs7 qs9 qs10 qs12
       first
        | (refine run_passed sn1 ?_; exact detK.mk)
        | (refine run_undef sn1 ?_; exact detK.mk)
        | (refine run_guarded sn1 ?_; (first | refine op_pick_t rfl sn5 sn8 ?_ | refine op_pick_f rfl sn5 (hρ.const _) ?_); exact detK.mk)
      refine sure_det (js := [(3, 125), (9, 131), (1, 123)]) (ts := []) (gd := (some (123, true))) (place_at HVS.out (k := 10) rfl) (by rw [HCS.out]; kernel_rfl) ?_ ?_
      ·intro wx hx ρ hρ hs hf; have hρc := hρ.const; have hρf := hρ.func; obtain ⟨sn3, sn9, sn1, -⟩ := hs; rw [place_at HVS.out (k := 3) rfl] at sn3; replace sn3 : ρ (.tmp 125) = _ := sn3; rw [place_at HVS.out (k := 9) rfl] at sn9; replace sn9 : ρ (.tmp 131) = _ := sn9; rw [place_at HVS.out (k := 1) rfl] at sn1; replace sn1 : ρ (.tmp 123) = _ := sn1
       clear hf
       clear HCS HVS qs5 qs6 qs7 qs9 qs10 qs12
       first
        | (refine run_passed sn1 ?_; exact detK.mk)
        | (refine run_undef sn1 ?_; exact detK.mk)
        | (refine run_guarded sn1 ?_; unfold runs; go_simp; exact detK.mk)
      refine sure_det (js := [(1, 123), (10, 132)]) (ts := []) (gd := none) (place_at HVS.out (k := 11) rfl) (by rw [HCS.out]; kernel_rfl) ?_ ?_
      ·intro wx hx ρ hρ hs hf; have hρc := hρ.const; have hρf := hρ.func; obtain ⟨sn1, sn10, -⟩ := hs; rw [place_at HVS.out (k := 1) rfl] at sn1; replace sn1 : ρ (.tmp 123) = _ := sn1; rw [place_at HVS.out (k := 10) rfl] at sn10; replace sn10 : ρ (.tmp 132) = _ := sn10
       clear hf
       clear HCS HVS qs5 qs6 qs7 qs9 qs10 qs12
       refine run_plain ?_
       first | refine op_pick_t rfl sn1 sn10 ?_ | refine op_pick_f rfl sn1 (hρ.const _) ?_
       exact detK.mk
      refine sure_det (js := [(11, 133)]) (ts := []) (gd := none) (place_at HVS.out (k := 12) rfl) (by rw [HCS.out]; kernel_rfl) ?_ ?_
      ·intro wx hx ρ hρ hs hf; have hρc := hρ.const; have hρf := hρ.func; obtain ⟨sn11, -⟩ := hs; rw [place_at HVS.out (k := 11) rfl] at sn11; replace sn11 : ρ (.tmp 133) = _ := sn11
       clear hf
       clear HCS HVS qs5 qs6 qs7 qs9 qs10 qs12
       refine run_plain ?_
       refine op_move rfl sn11 ?_
       exact detK.mk
      refine sure_det (js := [(12, 134)]) (ts := [5]) (gd := (some (134, true))) (place_at HVS.out (k := 13) rfl) (by rw [HCS.out]; kernel_rfl) ?_ ?_
      ·intro wx hx ρ hρ hs hf; have hρc := hρ.const; have hρf := hρ.func; obtain ⟨sn12, -⟩ := hs
       obtain ⟨fx5, -⟩ := hf; rw [qs5] at fx5; rw [place_at HVS.out (k := 12) rfl] at sn12; replace sn12 : ρ (.tmp 134) = _ := sn12
       clear HCS HVS qs5 qs6 qs7 qs9 qs10 qs12
       first
        | (refine run_passed sn12 ?_; exact detK.mk)
        | (refine run_undef sn12 ?_; exact detK.mk)
        | (refine run_guarded sn12 ?_; unfold runs; go_simp; exact detK.mk)
      refine sure_det (js := [(13, 135), (12, 134)]) (ts := []) (gd := (some (134, true))) (place_at HVS.out (k := 14) rfl) (by rw [HCS.out]; kernel_rfl) ?_ ?_
      ·intro wx hx ρ hρ hs hf; have hρc := hρ.const; have hρf := hρ.func; obtain ⟨sn13, sn12, -⟩ := hs; rw [place_at HVS.out (k := 13) rfl] at sn13; replace sn13 : ρ (.tmp 135) = _ := sn13; rw [place_at HVS.out (k := 12) rfl] at sn12; replace sn12 : ρ (.tmp 134) = _ := sn12
       clear hf
       clear HCS HVS qs5 qs6 qs7 qs9 qs10 qs12
       first
        | (refine run_passed sn12 ?_; exact detK.mk)
        | (refine run_undef sn12 ?_; exact detK.mk)
        | (refine run_guarded sn12 ?_; obtain ⟨k0, k1, k2, k3, k4, k5, k6, k7, k8, k9⟩ := hX wx hx.drawn; unfold runs; go_simp; exact detK.mk)
      refine sure_det (js := [(14, 136), (12, 134)]) (ts := []) (gd := (some (134, true))) (place_at HVS.out (k := 15) rfl) (by rw [HCS.out]; kernel_rfl) ?_ ?_
      ·intro wx hx ρ hρ hs hf; have hρc := hρ.const; have hρf := hρ.func; obtain ⟨sn14, sn12, -⟩ := hs; rw [place_at HVS.out (k := 14) rfl] at sn14; replace sn14 : ρ (.tmp 136) = _ := sn14; rw [place_at HVS.out (k := 12) rfl] at sn12; replace sn12 : ρ (.tmp 134) = _ := sn12
       clear hf
       clear HCS HVS qs5 qs6 qs7 qs9 qs10 qs12
       first
        | (refine run_passed sn12 ?_; exact detK.mk)
        | (refine run_undef sn12 ?_; exact detK.mk)
        | (refine run_guarded sn12 ?_; refine op_call rfl hρ Try.call36 (map_one sn14) ?_; (first | ((with_reducible refine Calls.mono (adisk_any _ _) ?_); rintro e w' ⟨rfl, rfl⟩; refine ⟨_, rfl, ?_⟩; rw [hdk]; exact detK.mk) | ((with_reducible refine Calls.mono (accright_K (hV1.ext (hx2.trans hx.drawn))) ?_); rintro e w' ⟨rfl, hx5⟩; refine ⟨_, rfl, ?_⟩; rw [hXr1]; exact detK.ext hx5)))
      refine sure_det (js := [(15, 137), (12, 134)]) (ts := []) (gd := (some (134, true))) (place_at HVS.out (k := 16) rfl) (by rw [HCS.out]; kernel_rfl) ?_ ?_
      ·intro wx hx ρ hρ hs hf; have hρc := hρ.const; have hρf := hρ.func; obtain ⟨sn15, sn12, -⟩ := hs; rw [place_at HVS.out (k := 15) rfl] at sn15; replace sn15 : ρ (.tmp 137) = _ := sn15; rw [place_at HVS.out (k := 12) rfl] at sn12; replace sn12 : ρ (.tmp 134) = _ := sn12
       clear hf
       clear HCS HVS qs5 qs6 qs7 qs9 qs10 qs12
       first
        | (refine run_passed sn12 ?_; exact detK.mk)
        | (refine run_undef sn12 ?_; exact detK.mk)
        | (refine run_guarded sn12 ?_; refine op_move rfl sn15 ?_; exact detK.mk)
      refine sure_det (js := [(16, 138)]) (ts := [12]) (gd := (some (138, false))) (place_at HVS.out (k := 17) rfl) (by rw [HCS.out]; kernel_rfl) ?_ ?_
      ·intro wx hx ρ hρ hs hf; have hρc := hρ.const; have hρf := hρ.func; obtain ⟨sn16, -⟩ := hs
       obtain ⟨fx12, -⟩ := hf; rw [qs12] at fx12; rw [place_at HVS.out (k := 16) rfl] at sn16; replace sn16 : ρ (.tmp 138) = _ := sn16
       clear HCS HVS qs5 qs6 qs7 qs9 qs10 qs12
       first
        | (refine run_passed sn16 ?_; exact detK.mk)
        | (refine run_undef sn16 ?_; exact detK.mk)
        | (refine run_guarded sn16 ?_; refine op_move rfl fx12 ?_; exact detK.mk)
      refine sure_det (js := [(16, 138), (17, 139), (12, 134)]) (ts := []) (gd := (some (134, true))) (place_at HVS.out (k := 18) rfl) (by rw [HCS.out]; kernel_rfl) ?_ ?_
      ·intro wx hx ρ hρ hs hf; have hρc := hρ.const; have hρf := hρ.func; obtain ⟨sn16, sn17, sn12, -⟩ := hs; rw [place_at HVS.out (k := 16) rfl] at sn16; replace sn16 : ρ (.tmp 138) = _ := sn16; rw [place_at HVS.out (k := 17) rfl] at sn17; replace sn17 : ρ (.tmp 139) = _ := sn17; rw [place_at HVS.out (k := 12) rfl] at sn12; replace sn12 : ρ (.tmp 134) = _ := sn12
       clear hf
       clear HCS HVS qs5 qs6 qs7 qs9 qs10 qs12
       first
        | (refine run_passed sn12 ?_; exact detK.mk)
        | (refine run_undef sn12 ?_; exact detK.mk)
        | (refine run_guarded sn12 ?_; (first | refine op_pick_t rfl sn16 (hρ.const _) ?_ | refine op_pick_f rfl sn16 sn17 ?_); exact detK.mk)
      refine sure_det (js := [(12, 134), (18, 140)]) (ts := []) (gd := none) (place_at HVS.out (k := 19) rfl) (by rw [HCS.out]; kernel_rfl) ?_ ?_
      ·intro wx hx ρ hρ hs hf; have hρc := hρ.const; have hρf := hρ.func; obtain ⟨sn12, sn18, -⟩ := hs; rw [place_at HVS.out (k := 12) rfl] at sn12; replace sn12 : ρ (.tmp 134) = _ := sn12; rw [place_at HVS.out (k := 18) rfl] at sn18; replace sn18 : ρ (.tmp 140) = _ := sn18
       clear hf
       clear HCS HVS qs5 qs6 qs7 qs9 qs10 qs12
       refine run_plain ?_
       first | refine op_pick_t rfl sn12 sn18 ?_ | refine op_pick_f rfl sn12 (hρ.const _) ?_
       exact detK.mk
      refine sure_det (js := [(19, 141)]) (ts := []) (gd := none) (place_at HVS.out (k := 20) rfl) (by rw [HCS.out]; kernel_rfl) ?_ ?_
      ·intro wx hx ρ hρ hs hf; have hρc := hρ.const; have hρf := hρ.func; obtain ⟨sn19, -⟩ := hs; rw [place_at HVS.out (k := 19) rfl] at sn19; replace sn19 : ρ (.tmp 141) = _ := sn19
       clear hf
       clear HCS HVS qs5 qs6 qs7 qs9 qs10 qs12
       refine run_plain ?_
       refine op_move rfl sn19 ?_
       exact detK.mk
      refine sure_det (js := [(20, 142)]) (ts := [10]) (gd := (some (142, true))) (place_at HVS.out (k := 21) rfl) (by rw [HCS.out]; kernel_rfl) ?_ ?_
      ·intro wx hx ρ hρ hs hf; have hρc := hρ.const; have hρf := hρ.func; obtain ⟨sn20, -⟩ := hs
       obtain ⟨fx10, -⟩ := hf; rw [qs10] at fx10; rw [place_at HVS.out (k := 20) rfl] at sn20; replace sn20 : ρ (.tmp 142) = _ := sn20
       clear HCS HVS qs5 qs6 qs7 qs9 qs10 qs12
       first
        | (refine run_passed sn20 ?_; exact detK.mk)
        | (refine run_undef sn20 ?_; exact detK.mk)
        | (refine run_guarded sn20 ?_; unfold runs; go_simp; exact detK.mk)
      refine sure_det (js := [(21, 143), (20, 142)]) (ts := []) (gd := (some (142, true))) (place_at HVS.out (k := 22) rfl) (by rw [HCS.out]; kernel_rfl) ?_ ?_
      ·intro wx hx ρ hρ hs hf; have hρc := hρ.const; have hρf := hρ.func; obtain ⟨sn21, sn20, -⟩ := hs; rw [place_at HVS.out (k := 21) rfl] at sn21; replace sn21 : ρ (.tmp 143) = _ := sn21; rw [place_at HVS.out (k := 20) rfl] at sn20; replace sn20 : ρ (.tmp 142) = _ := sn20
       clear hf
       clear HCS HVS qs5 qs6 qs7 qs9 qs10 qs12
       first
        | (refine run_passed sn20 ?_; exact detK.mk)
        | (refine run_undef sn20 ?_; exact detK.mk)
        | (refine run_guarded sn20 ?_; obtain ⟨k0, k1, k2, k3, k4, k5, k6, k7, k8, k9⟩ := hX wx hx.drawn; unfold runs; go_simp; exact detK.mk)
      refine sure_det (js := [(22, 144), (20, 142)]) (ts := []) (gd := (some (142, true))) (place_at HVS.out (k := 23) rfl) (by rw [HCS.out]; kernel_rfl) ?_ ?_
      ·intro wx hx ρ hρ hs hf; have hρc := hρ.const; have hρf := hρ.func; obtain ⟨sn22, sn20, -⟩ := hs; rw [place_at HVS.out (k := 22) rfl] at sn22; replace sn22 : ρ (.tmp 144) = _ := sn22; rw [place_at HVS.out (k := 20) rfl] at sn20; replace sn20 : ρ (.tmp 142) = _ := sn20
       clear hf
       clear HCS HVS qs5 qs6 qs7 qs9 qs10 qs12
       first
        | (refine run_passed sn20 ?_; exact detK.mk)
        | (refine run_undef sn20 ?_; exact detK.mk)
        | (refine run_guarded sn20 ?_; unfold runs; go_simp; exact detK.mk)
      refine sure_det (js := [(23, 145), (20, 142)]) (ts := []) (gd := (some (142, true))) (place_at HVS.out (k := 24) rfl) (by rw [HCS.out]; kernel_rfl) ?_ ?_
      ·intro wx hx ρ hρ hs hf; have hρc := hρ.const; have hρf := hρ.func; obtain ⟨sn23, sn20, -⟩ := hs; rw [place_at HVS.out (k := 23) rfl] at sn23; replace sn23 : ρ (.tmp 145) = _ := sn23; rw [place_at HVS.out (k := 20) rfl] at sn20; replace sn20 : ρ (.tmp 142) = _ := sn20
       clear hf
       clear HCS HVS qs5 qs6 qs7 qs9 qs10 qs12
       first
        | (refine run_passed sn20 ?_; exact detK.mk)
        | (refine run_undef sn20 ?_; exact detK.mk)
        | (refine run_guarded sn20 ?_; refine op_move rfl sn23 ?_; exact detK.mk)
      refine sure_det (js := [(24, 146)]) (ts := [12]) (gd := (some (146, false))) (place_at HVS.out (k := 25) rfl) (by rw [HCS.out]; kernel_rfl) ?_ ?_
      ·intro wx hx ρ hρ hs hf; have hρc := hρ.const; have hρf := hρ.func; obtain ⟨sn24, -⟩ := hs
       obtain ⟨fx12, -⟩ := hf; rw [qs12] at fx12; rw [place_at HVS.out (k := 24) rfl] at sn24; replace sn24 : ρ (.tmp 146) = _ := sn24
       clear HCS HVS qs5 qs6 qs7 qs9 qs10 qs12
       first
        | (refine run_passed sn24 ?_; exact detK.mk)
        | (refine run_undef sn24 ?_; exact detK.mk)
        | (refine run_guarded sn24 ?_; refine op_move rfl fx12 ?_; exact detK.mk)
      refine sure_det (js := [(25, 147), (24, 146)]) (ts := []) (gd := (some (146, false))) (place_at HVS.out (k := 26) rfl) (by rw [HCS.out]; kernel_rfl) ?_ ?_
      ·intro wx hx ρ hρ hs hf; have hρc := hρ.const; have hρf := hρ.func; obtain ⟨sn25, sn24, -⟩ := hs; rw [place_at HVS.out (k := 25) rfl] at sn25; replace sn25 : ρ (.tmp 147) = _ := sn25; rw [place_at HVS.out (k := 24) rfl] at sn24; replace sn24 : ρ (.tmp 146) = _ := sn24
       clear hf
       clear HCS HVS qs5 qs6 qs7 qs9 qs10 qs12
       first
        | (refine run_passed sn24 ?_; exact detK.mk)
        | (refine run_undef sn24 ?_; exact detK.mk)
        | (refine run_guarded sn24 ?_; refine op_move rfl sn25 ?_; exact detK.mk)
      refine sure_det (js := [(26, 148)]) (ts := [10]) (gd := (some (148, true))) (place_at HVS.out (k := 27) rfl) (by rw [HCS.out]; kernel_rfl) ?_ ?_
      ·intro wx hx ρ hρ hs hf; have hρc := hρ.const; have hρf := hρ.func; obtain ⟨sn26, -⟩ := hs
       obtain ⟨fx10, -⟩ := hf; rw [qs10] at fx10; rw [place_at HVS.out (k := 26) rfl] at sn26; replace sn26 : ρ (.tmp 148) = _ := sn26
       clear HCS HVS qs5 qs6 qs7 qs9 qs10 qs12
       first
        | (refine run_passed sn26 ?_; exact detK.mk)
        | (refine run_undef sn26 ?_; exact detK.mk)
        | (refine run_guarded sn26 ?_; unfold runs; go_simp; exact detK.mk)
      refine sure_det (js := [(27, 149), (26, 148)]) (ts := []) (gd := (some (148, true))) (place_at HVS.out (k := 28) rfl) (by rw [HCS.out]; kernel_rfl) ?_ ?_
      ·intro wx hx ρ hρ hs hf; have hρc := hρ.const; have hρf := hρ.func; obtain ⟨sn27, sn26, -⟩ := hs; rw [place_at HVS.out (k := 27) rfl] at sn27; replace sn27 : ρ (.tmp 149) = _ := sn27; rw [place_at HVS.out (k := 26) rfl] at sn26; replace sn26 : ρ (.tmp 148) = _ := sn26
       clear hf
       clear HCS HVS qs5 qs6 qs7 qs9 qs10 qs12
       first
        | (refine run_passed sn26 ?_; exact detK.mk)
        | (refine run_undef sn26 ?_; exact detK.mk)
        | (refine run_guarded sn26 ?_; obtain ⟨k0, k1, k2, k3, k4, k5, k6, k7, k8, k9⟩ := hX wx hx.drawn; unfold runs; go_simp; exact detK.mk)
      refine sure_det (js := [(28, 150), (26, 148)]) (ts := []) (gd := (some (148, true))) (place_at HVS.out (k := 29) rfl) (by rw [HCS.out]; kernel_rfl) ?_ ?_
      ·intro wx hx ρ hρ hs hf; have hρc := hρ.const; have hρf := hρ.func; obtain ⟨sn28, sn26, -⟩ := hs; rw [place_at HVS.out (k := 28) rfl] at sn28; replace sn28 : ρ (.tmp 150) = _ := sn28; rw [place_at HVS.out (k := 26) rfl] at sn26; replace sn26 : ρ (.tmp 148) = _ := sn26
       clear hf
       clear HCS HVS qs5 qs6 qs7 qs9 qs10 qs12
       first
        | (refine run_passed sn26 ?_; exact detK.mk)
        | (refine run_undef sn26 ?_; exact detK.mk)
        | (refine run_guarded sn26 ?_; unfold runs; go_simp; exact detK.mk)
      refine sure_det (js := [(29, 151), (26, 148)]) (ts := []) (gd := (some (148, true))) (place_at HVS.out (k := 30) rfl) (by rw [HCS.out]; kernel_rfl) ?_ ?_
      ·intro wx hx ρ hρ hs hf; have hρc := hρ.const; have hρf := hρ.func; obtain ⟨sn29, sn26, -⟩ := hs; rw [place_at HVS.out (k := 29) rfl] at sn29; replace sn29 : ρ (.tmp 151) = _ := sn29; rw [place_at HVS.out (k := 26) rfl] at sn26; replace sn26 : ρ (.tmp 148) = _ := sn26
       clear hf
       clear HCS HVS qs5 qs6 qs7 qs9 qs10 qs12
       first
        | (refine run_passed sn26 ?_; exact detK.mk)
        | (refine run_undef sn26 ?_; exact detK.mk)
        | (refine run_guarded sn26 ?_; unfold runs; go_simp; exact detK.mk)
      refine sure_det (js := [(26, 148), (30, 152), (24, 146)]) (ts := []) (gd := (some (146, false))) (place_at HVS.out (k := 31) rfl) (by rw [HCS.out]; kernel_rfl) ?_ ?_
      ·intro wx hx ρ hρ hs hf; have hρc := hρ.const; have hρf := hρ.func; obtain ⟨sn26, sn30, sn24, -⟩ := hs; rw [place_at HVS.out (k := 26) rfl] at sn26; replace sn26 : ρ (.tmp 148) = _ := sn26; rw [place_at HVS.out (k := 30) rfl] at sn30; replace sn30 : ρ (.tmp 152) = _ := sn30; rw [place_at HVS.out (k := 24) rfl] at sn24; replace sn24 : ρ (.tmp 146) = _ := sn24
       clear hf
       clear HCS HVS qs5 qs6 qs7 qs9 qs10 qs12
       first
        | (refine run_passed sn24 ?_; exact detK.mk)
        | (refine run_undef sn24 ?_; exact detK.mk)
        | (refine run_guarded sn24 ?_; (first | refine op_pick_t rfl sn26 sn30 ?_ | refine op_pick_f rfl sn26 (hρ.const _) ?_); exact detK.mk)
      refine sure_det (js := [(31, 153), (24, 146)]) (ts := []) (gd := (some (146, false))) (place_at HVS.out (k := 32) rfl) (by rw [HCS.out]; kernel_rfl) ?_ ?_
      ·intro wx hx ρ hρ hs hf; have hρc := hρ.const; have hρf := hρ.func; obtain ⟨sn31, sn24, -⟩ := hs; rw [place_at HVS.out (k := 31) rfl] at sn31; replace sn31 : ρ (.tmp 153) = _ := sn31; rw [place_at HVS.out (k := 24) rfl] at sn24; replace sn24 : ρ (.tmp 146) = _ := sn24
       clear hf
       clear HCS HVS qs5 qs6 qs7 qs9 qs10 qs12
       first
        | (refine run_passed sn24 ?_; exact detK.mk)
        | (refine run_undef sn24 ?_; exact detK.mk)
        | (refine run_guarded sn24 ?_; refine op_move rfl sn31 ?_; exact detK.mk)
      refine sure_det (js := [(32, 154)]) (ts := [10]) (gd := (some (154, true))) (place_at HVS.out (k := 33) rfl) (by rw [HCS.out]; kernel_rfl) ?_ ?_
      ·intro wx hx ρ hρ hs hf; have hρc := hρ.const; have hρf := hρ.func; obtain ⟨sn32, -⟩ := hs
       obtain ⟨fx10, -⟩ := hf; rw [qs10] at fx10; rw [place_at HVS.out (k := 32) rfl] at sn32; replace sn32 : ρ (.tmp 154) = _ := sn32
       clear HCS HVS qs5 qs6 qs7 qs9 qs10 qs12
       first
        | (refine run_passed sn32 ?_; exact detK.mk)
        | (refine run_undef sn32 ?_; exact detK.mk)
        | (refine run_guarded sn32 ?_; unfold runs; go_simp; exact detK.mk)
      refine sure_det (js := [(33, 155), (32, 154)]) (ts := []) (gd := (some (154, true))) (place_at HVS.out (k := 34) rfl) (by rw [HCS.out]; kernel_rfl) ?_ ?_
      ·intro wx hx ρ hρ hs hf; have hρc := hρ.const; have hρf := hρ.func; obtain ⟨sn33, sn32, -⟩ := hs; rw [place_at HVS.out (k := 33) rfl] at sn33; replace sn33 : ρ (.tmp 155) = _ := sn33; rw [place_at HVS.out (k := 32) rfl] at sn32; replace sn32 : ρ (.tmp 154) = _ := sn32
       clear hf
       clear HCS HVS qs5 qs6 qs7 qs9 qs10 qs12
       first
        | (refine run_passed sn32 ?_; exact detK.mk)
        | (refine run_undef sn32 ?_; exact detK.mk)
        | (refine run_guarded sn32 ?_; obtain ⟨k0, k1, k2, k3, k4, k5, k6, k7, k8, k9⟩ := hX wx hx.drawn; unfold runs; go_simp; exact detK.mk)
      refine sure_det (js := [(34, 156), (32, 154)]) (ts := []) (gd := (some (154, true))) (place_at HVS.out (k := 35) rfl) (by rw [HCS.out]; kernel_rfl) ?_ ?_
      ·intro wx hx ρ hρ hs hf; have hρc := hρ.const; have hρf := hρ.func; obtain ⟨sn34, sn32, -⟩ := hs; rw [place_at HVS.out (k := 34) rfl] at sn34; replace sn34 : ρ (.tmp 156) = _ := sn34; rw [place_at HVS.out (k := 32) rfl] at sn32; replace sn32 : ρ (.tmp 154) = _ := sn32
       clear hf
       clear HCS HVS qs5 qs6 qs7 qs9 qs10 qs12
       first
        | (refine run_passed sn32 ?_; exact detK.mk)
        | (refine run_undef sn32 ?_; exact detK.mk)
        | (refine run_guarded sn32 ?_; unfold runs; go_simp; exact detK.mk)
      refine sure_det (js := [(32, 154), (35, 157), (24, 146)]) (ts := []) (gd := (some (146, false))) (place_at HVS.out (k := 36) rfl) (by rw [HCS.out]; kernel_rfl) ?_ ?_
      ·intro wx hx ρ hρ hs hf; have hρc := hρ.const; have hρf := hρ.func; obtain ⟨sn32, sn35, sn24, -⟩ := hs; rw [place_at HVS.out (k := 32) rfl] at sn32; replace sn32 : ρ (.tmp 154) = _ := sn32; rw [place_at HVS.out (k := 35) rfl] at sn35; replace sn35 : ρ (.tmp 157) = _ := sn35; rw [place_at HVS.out (k := 24) rfl] at sn24; replace sn24 : ρ (.tmp 146) = _ := sn24
       clear hf
       clear HCS HVS qs5 qs6 qs7 qs9 qs10 qs12
       first
        | (refine run_passed sn24 ?_; exact detK.mk)
        | (refine run_undef sn24 ?_; exact detK.mk)
        | (refine run_guarded sn24 ?_; (first | refine op_pick_t rfl sn32 sn35 ?_ | refine op_pick_f rfl sn32 (hρ.const _) ?_); exact detK.mk)
      refine sure_det (js := [(24, 146), (36, 158), (20, 142)]) (ts := []) (gd := (some (142, true))) (place_at HVS.out (k := 37) rfl) (by rw [HCS.out]; kernel_rfl) ?_ ?_
      ·intro wx hx ρ hρ hs hf; have hρc := hρ.const; have hρf := hρ.func; obtain ⟨sn24, sn36, sn20, -⟩ := hs; rw [place_at HVS.out (k := 24) rfl] at sn24; replace sn24 : ρ (.tmp 146) = _ := sn24; rw [place_at HVS.out (k := 36) rfl] at sn36; replace sn36 : ρ (.tmp 158) = _ := sn36; rw [place_at HVS.out (k := 20) rfl] at sn20; replace sn20 : ρ (.tmp 142) = _ := sn20
       clear hf
       clear HCS HVS qs5 qs6 qs7 qs9 qs10 qs12
       first
        | (refine run_passed sn20 ?_; exact detK.mk)
        | (refine run_undef sn20 ?_; exact detK.mk)
        | (refine run_guarded sn20 ?_; (first | refine op_pick_t rfl sn24 (hρ.const _) ?_ | refine op_pick_f rfl sn24 sn36 ?_); exact detK.mk)
      refine sure_det (js := [(20, 142), (37, 159)]) (ts := []) (gd := none) (place_at HVS.out (k := 38) rfl) (by rw [HCS.out]; kernel_rfl) ?_ ?_
      ·intro wx hx ρ hρ hs hf; have hρc := hρ.const; have hρf := hρ.func; obtain ⟨sn20, sn37, -⟩ := hs; rw [place_at HVS.out (k := 20) rfl] at sn20; replace sn20 : ρ (.tmp 142) = _ := sn20; rw [place_at HVS.out (k := 37) rfl] at sn37; replace sn37 : ρ (.tmp 159) = _ := sn37
       clear hf
       clear HCS HVS qs5 qs6 qs7 qs9 qs10 qs12
       refine run_plain ?_
       first | refine op_pick_t rfl sn20 sn37 ?_ | refine op_pick_f rfl sn20 (hρ.const _) ?_
       exact detK.mk
      refine sure_det (js := [(38, 160)]) (ts := []) (gd := none) (place_at HVS.out (k := 39) rfl) (by rw [HCS.out]; kernel_rfl) ?_ ?_
      ·intro wx hx ρ hρ hs hf; have hρc := hρ.const; have hρf := hρ.func; obtain ⟨sn38, -⟩ := hs; rw [place_at HVS.out (k := 38) rfl] at sn38; replace sn38 : ρ (.tmp 160) = _ := sn38
       clear hf
       clear HCS HVS qs5 qs6 qs7 qs9 qs10 qs12
       refine run_plain ?_
       refine op_move rfl sn38 ?_
       exact detK.mk
      refine sure_det (js := [(39, 161)]) (ts := [9]) (gd := (some (161, true))) (place_at HVS.out (k := 40) rfl) (by rw [HCS.out]; kernel_rfl) ?_ ?_
      ·intro wx hx ρ hρ hs hf; have hρc := hρ.const; have hρf := hρ.func; obtain ⟨sn39, -⟩ := hs
       obtain ⟨fx9, -⟩ := hf; rw [qs9] at fx9; rw [place_at HVS.out (k := 39) rfl] at sn39; replace sn39 : ρ (.tmp 161) = _ := sn39
       clear HCS HVS qs5 qs6 qs7 qs9 qs10 qs12
       first
        | (refine run_passed sn39 ?_; exact detK.mk)
        | (refine run_undef sn39 ?_; exact detK.mk)
        | (refine run_guarded sn39 ?_; obtain ⟨k0, k1, k2, k3, k4, k5, k6, k7, k8, k9⟩ := hX wx hx.drawn; unfold runs; go_simp; exact detK.mk)
      refine sure_det (js := [(40, 162), (39, 161)]) (ts := []) (gd := (some (161, true))) (place_at HVS.out (k := 41) rfl) (by rw [HCS.out]; kernel_rfl) ?_ ?_
      ·intro wx hx ρ hρ hs hf; have hρc := hρ.const; have hρf := hρ.func; obtain ⟨sn40, sn39, -⟩ := hs; rw [place_at HVS.out (k := 40) rfl] at sn40; replace sn40 : ρ (.tmp 162) = _ := sn40; rw [place_at HVS.out (k := 39) rfl] at sn39; replace sn39 : ρ (.tmp 161) = _ := sn39
       clear hf
       clear HCS HVS qs5 qs6 qs7 qs9 qs10 qs12
       first
        | (refine run_passed sn39 ?_; exact detK.mk)
        | (refine run_undef sn39 ?_; exact detK.mk)
        | (refine run_guarded sn39 ?_; refine op_call rfl hρ Try.call35 (map_one sn40) ?_; (first | ((with_reducible refine Calls.mono (adisk_any _ _) ?_); rintro e w' ⟨rfl, rfl⟩; refine ⟨_, rfl, ?_⟩; rw [hdk]; exact detK.mk) | ((with_reducible refine Calls.mono (accright_K (hV1.ext (hx2.trans hx.drawn))) ?_); rintro e w' ⟨rfl, hx5⟩; refine ⟨_, rfl, ?_⟩; rw [hXr1]; exact detK.ext hx5)))
      refine sure_det (js := [(39, 161), (41, 163)]) (ts := []) (gd := none) (place_at HVS.out (k := 42) rfl) (by rw [HCS.out]; kernel_rfl) ?_ ?_
      ·intro wx hx ρ hρ hs hf; have hρc := hρ.const; have hρf := hρ.func; obtain ⟨sn39, sn41, -⟩ := hs; rw [place_at HVS.out (k := 39) rfl] at sn39; replace sn39 : ρ (.tmp 161) = _ := sn39; rw [place_at HVS.out (k := 41) rfl] at sn41; replace sn41 : ρ (.tmp 163) = _ := sn41
       clear hf
       clear HCS HVS qs5 qs6 qs7 qs9 qs10 qs12
       refine run_plain ?_
       first | refine op_pick_t rfl sn39 sn41 ?_ | refine op_pick_f rfl sn39 (hρ.const _) ?_
       exact detK.mk
      refine sure_det (js := [(42, 164)]) (ts := []) (gd := none) (place_at HVS.out (k := 43) rfl) (by rw [HCS.out]; kernel_rfl) ?_ ?_
      ·intro wx hx ρ hρ hs hf; have hρc := hρ.const; have hρf := hρ.func; obtain ⟨sn42, -⟩ := hs; rw [place_at HVS.out (k := 42) rfl] at sn42; replace sn42 : ρ (.tmp 164) = _ := sn42
       clear hf
       clear HCS HVS qs5 qs6 qs7 qs9 qs10 qs12
       refine run_plain ?_
       refine op_assign rfl sn42 ?_
       exact detK.mk
      exact trivial
     case hend =>
      intro xs wx hx hg
      have gk0 : xs 0 = _ := goods_get hg (i := 0) (j := 0) (d := 122) rfl
      have gk1 : xs 1 = _ := goods_get hg (i := 1) (j := 1) (d := 123) rfl
      have gk2 : xs 2 = _ := goods_get hg (i := 2) (j := 2) (d := 124) rfl
      have gk3 : xs 3 = _ := goods_get hg (i := 3) (j := 3) (d := 125) rfl
      have gk4 : xs 4 = _ := goods_get hg (i := 4) (j := 4) (d := 126) rfl
      have gk5 : xs 5 = _ := goods_get hg (i := 5) (j := 5) (d := 127) rfl
      have gk6 : xs 6 = _ := goods_get hg (i := 6) (j := 6) (d := 128) rfl
      have gk7 : xs 7 = _ := goods_get hg (i := 7) (j := 7) (d := 129) rfl
      have gk8 : xs 8 = _ := goods_get hg (i := 8) (j := 8) (d := 130) rfl
      have gk9 : xs 9 = _ := goods_get hg (i := 9) (j := 9) (d := 131) rfl
      have gk10 : xs 10 = _ := goods_get hg (i := 10) (j := 10) (d := 132) rfl
      have gk11 : xs 11 = _ := goods_get hg (i := 11) (j := 11) (d := 133) rfl
      have gk12 : xs 12 = _ := goods_get hg (i := 12) (j := 12) (d := 134) rfl
      have gk13 : xs 13 = _ := goods_get hg (i := 13) (j := 13) (d := 135) rfl
      have gk14 : xs 14 = _ := goods_get hg (i := 14) (j := 14) (d := 136) rfl
      have gk15 : xs 15 = _ := goods_get hg (i := 15) (j := 15) (d := 137) rfl
      have gk16 : xs 16 = _ := goods_get hg (i := 16) (j := 16) (d := 138) rfl
      have gk17 : xs 17 = _ := goods_get hg (i := 17) (j := 17) (d := 139) rfl
      have gk18 : xs 18 = _ := goods_get hg (i := 18) (j := 18) (d := 140) rfl
      have gk19 : xs 19 = _ := goods_get hg (i := 19) (j := 19) (d := 141) rfl
      have gk20 : xs 20 = _ := goods_get hg (i := 20) (j := 20) (d := 142) rfl
      have gk21 : xs 21 = _ := goods_get hg (i := 21) (j := 21) (d := 143) rfl
      have gk22 : xs 22 = _ := goods_get hg (i := 22) (j := 22) (d := 144) rfl
      have gk23 : xs 23 = _ := goods_get hg (i := 23) (j := 23) (d := 145) rfl
      have gk24 : xs 24 = _ := goods_get hg (i := 24) (j := 24) (d := 146) rfl
      have gk25 : xs 25 = _ := goods_get hg (i := 25) (j := 25) (d := 147) rfl
      have gk26 : xs 26 = _ := goods_get hg (i := 26) (j := 26) (d := 148) rfl
      have gk27 : xs 27 = _ := goods_get hg (i := 27) (j := 27) (d := 149) rfl
      have gk28 : xs 28 = _ := goods_get hg (i := 28) (j := 28) (d := 150) rfl
      have gk29 : xs 29 = _ := goods_get hg (i := 29) (j := 29) (d := 151) rfl
      have gk30 : xs 30 = _ := goods_get hg (i := 30) (j := 30) (d := 152) rfl
      have gk31 : xs 31 = _ := goods_get hg (i := 31) (j := 31) (d := 153) rfl
      have gk32 : xs 32 = _ := goods_get hg (i := 32) (j := 32) (d := 154) rfl
      have gk33 : xs 33 = _ := goods_get hg (i := 33) (j := 33) (d := 155) rfl
      have gk34 : xs 34 = _ := goods_get hg (i := 34) (j := 34) (d := 156) rfl
      have gk35 : xs 35 = _ := goods_get hg (i := 35) (j := 35) (d := 157) rfl
      have gk36 : xs 36 = _ := goods_get hg (i := 36) (j := 36) (d := 158) rfl
      have gk37 : xs 37 = _ := goods_get hg (i := 37) (j := 37) (d := 159) rfl
      have gk38 : xs 38 = _ := goods_get hg (i := 38) (j := 38) (d := 160) rfl
      have gk39 : xs 39 = _ := goods_get hg (i := 39) (j := 39) (d := 161) rfl
      have gk40 : xs 40 = _ := goods_get hg (i := 40) (j := 40) (d := 162) rfl
      have gk41 : xs 41 = _ := goods_get hg (i := 41) (j := 41) (d := 163) rfl
      have gk42 : xs 42 = _ := goods_get hg (i := 42) (j := 42) (d := 164) rfl
      have gk43 : xs 43 = _ := goods_get hg (i := 43) (j := 43) (d := 2) rfl
      clear hg
      simp only [putAll, gk0, gk1, gk2, gk3, gk4, gk5, gk6, gk7, gk8, gk9, gk10, gk11, gk12, gk13, gk14, gk15, gk16, gk17, gk18, gk19, gk20, gk21, gk22, gk23, gk24, gk25, gk26, gk27, gk28, gk29, gk30, gk31, gk32, gk33, gk34, gk35, gk36, gk37, gk38, gk39, gk40, gk41, gk42, gk43]
      clear gk0 gk1 gk2 gk3 gk4 gk5 gk6 gk7 gk8 gk9 gk10 gk11 gk12 gk13 gk14 gk15 gk16 gk17 gk18 gk19 gk20 gk21 gk22 gk23 gk24 gk25 gk26 gk27 gk28 gk29 gk30 gk31 gk32 gk33 gk34 gk35 gk36 gk37 gk38 gk39 gk40 gk41 gk42 gk43
      clear xs
      simp only [Act.put, List.setIfInBounds_toArray, List.set_cons_zero, List.set_cons_succ]
      go_wp2
      go_ret
      exact ⟨rfl, hW.trans (hx2.trans hx.drawn)⟩
   ·cases fail
    ·have P3 := Lib.hid p3
     have P6 := Lib.hid p6
     have Y1 := Lib.hid y1
     have Y2 := Lib.hid y2
     clear p3 p4 p5 p6 y1 y2
     go_wp2_with fail
     refine (dsame_any_eq hV1.dk hV.dk P3.out).mono ?_
     rintro e v2 ⟨⟨sb, rfl⟩, hx2⟩
     have hfl : R1.fail = false := by rw [Y1.out, hdk]; rfl
     rw [hfl] at hrx1
     have hX : ∀ wx, Ext v2 wx → wx.cell? ⟨g1 + 1, 0, none⟩ = some (.int .u64 R1.N) ∧ wx.cell? ⟨g1 + 1, 1, none⟩ = some (.slice yS1 ys1 yt1) ∧ wx.cell? ⟨g1 + 1, 2, none⟩ = some (.bool false) ∧ wx.cell? ⟨ga, 0, none⟩ = some (.int .i64 a.kind) ∧ wx.cell? ⟨g1, 0, none⟩ = some (.int .i64 T) ∧ wx.cell? ⟨g1, 1, none⟩ = some (.int .i64 C) ∧ wx.cell? ⟨g1, 2, none⟩ = some (.slice (some a1) j xc1) ∧ wx.cell? ⟨g1, 3, none⟩ = some (.int .u64 X1.R) ∧ wx.cell? ⟨g1, 4, none⟩ = some (.slice xB1 n1 xb1) ∧ wx.cell? ⟨g1, 5, none⟩ = some (.slice xC1 n1 xd1) := fun wx hx =>
      ⟨(hx2.trans hx).cell (by simp [World.cell?, hrx1]), (hx2.trans hx).cell (by simp [World.cell?, hrx1]), (hx2.trans hx).cell (by simp [World.cell?, hrx1]), (hx2.trans hx).cell (by simp [World.cell?, hA]), (hx2.trans hx).cell (by simp [World.cell?, hbx1]), (hx2.trans hx).cell (by simp [World.cell?, hbx1]), (hx2.trans hx).cell (by simp [World.cell?, hbx1]), (hx2.trans hx).cell (by simp [World.cell?, hbx1]), (hx2.trans hx).cell (by simp [World.cell?, hbx1]), (hx2.trans hx).cell (by simp [World.cell?, hbx1])⟩
     clear x0 x1 x2 x3 x4 x5 e0 e1 e2 e3 e4 e5 P3 P6 Y1 Y2 hXw hml hj hfl hs1 hw1 hwz hV hR1 ha hwd hqc hq2
     go_upto_region 18 with (fail)
     refine' wp_region_sure_all ⟨((some 122, [], none) :: (some 123, [0], none) :: (some 124, [1], some (1, true)) :: (some 125, [2, 1], some (1, true)) :: (some 126, [1], some (1, true)) :: (some 127, [4, 1, 1], some (1, true)) :: (some 128, [5], some (5, true)) :: (some 129, [6, 5], some (5, true)) :: (some 130, [7, 5, 5], some (5, true)) :: (some 131, [5, 8, 1], some (1, true)) :: (some 132, [3, 9, 1], some (1, true)) :: (some 133, [1, 10], none) :: (some 134, [11, 8], none) :: (some 135, [12], some (12, true)) :: (some 136, [13, 12], some (12, true)) :: (some 137, [14, 12, 12], some (12, true)) :: (some 138, [15, 15, 12], some (12, true)) :: (some 139, [16], some (16, false)) :: (some 140, [16, 17, 12], some (12, true)) :: (some 141, [12, 18], none) :: (some 142, [19, 16], none) :: (some 143, [20], some (20, true)) :: (some 144, [21, 20], some (20, true)) :: (some 145, [22, 20], some (20, true)) :: (some 146, [23, 20, 20], some (20, true)) :: (some 147, [24], some (24, false)) :: (some 148, [25, 24, 24], some (24, false)) :: (some 149, [26], some (26, true)) :: (some 150, [27, 26], some (26, true)) :: (some 151, [28, 26], some (26, true)) :: (some 152, [29, 26], some (26, true)) :: (some 153, [26, 30, 24], some (24, false)) :: (some 154, [31, 26, 24], some (24, false)) :: (some 155, [32], some (32, true)) :: (some 156, [33, 32], some (32, true)) :: (some 157, [34, 32], some (32, true)) :: (some 158, [32, 35, 24], some (24, false)) :: (some 159, [24, 36, 20], some (20, true)) :: (some 160, [20, 37], none) :: (some 161, [38, 32], none) :: (some 162, [39], some (39, true)) :: (some 163, [40, 39, 39], some (39, true)) :: (some 164, [39, 41], none) :: (some 2, [42, 41, 0, 1, 2, 3, 4, 5, 6, 7, 8, 9, 10, 11, 12, 13, 14, 15, 16, 17, 18, 19, 20, 21, 22, 23, 24, 25, 26, 27, 28, 29, 30, 31, 32, 33, 34, 35, 36, 37, 38, 39, 40, 41, 42], none) :: []), (0 :: 1 :: 3 :: 7 :: 3 :: 19 :: 51 :: 115 :: 243 :: 499 :: 1023 :: 2047 :: 4095 :: 8191 :: 16383 :: 32767 :: 65535 :: 131071 :: 262143 :: 524287 :: 1048575 :: 2097151 :: 4194303 :: 8388607 :: 16777215 :: 33554431 :: 67108863 :: 134217727 :: 268435455 :: 536870911 :: 1073741823 :: 2147483647 :: 4294967295 :: 8589934591 :: 17179869183 :: 34359738367 :: 68719476735 :: 137438953471 :: 274877906943 :: 549755813887 :: 1099511627775 :: 2199023255551 :: 4398046511103 :: 8796093022207 :: []), (true :: true :: true :: true :: true :: true :: true :: true :: true :: true :: true :: true :: true :: true :: true :: true :: true :: true :: true :: true :: true :: true :: true :: true :: true :: true :: true :: true :: true :: true :: true :: true :: true :: true :: true :: true :: true :: true :: true :: true :: true :: true :: true :: true :: []), [], 0⟩ 44 165 ((0, 122) :: (1, 123) :: (2, 124) :: (3, 125) :: (4, 126) :: (5, 127) :: (6, 128) :: (7, 129) :: (8, 130) :: (9, 131) :: (10, 132) :: (11, 133) :: (12, 134) :: (13, 135) :: (14, 136) :: (15, 137) :: (16, 138) :: (17, 139) :: (18, 140) :: (19, 141) :: (20, 142) :: (21, 143) :: (22, 144) :: (23, 145) :: (24, 146) :: (25, 147) :: (26, 148) :: (27, 149) :: (28, 150) :: (29, 151) :: (30, 152) :: (31, 153) :: (32, 154) :: (33, 155) :: (34, 156) :: (35, 157) :: (36, 158) :: (37, 159) :: (38, 160) :: (39, 161) :: (40, 162) :: (41, 163) :: (42, 164) :: (43, 2) :: []) ((0, 122) :: (1, 123) :: (2, 124) :: (3, 125) :: (4, 126) :: (5, 127) :: (6, 128) :: (7, 129) :: (8, 130) :: (9, 131) :: (10, 132) :: (11, 133) :: (12, 134) :: (13, 135) :: (14, 136) :: (15, 137) :: (16, 138) :: (17, 139) :: (18, 140) :: (19, 141) :: (20, 142) :: (21, 143) :: (22, 144) :: (23, 145) :: (24, 146) :: (25, 147) :: (26, 148) :: (27, 149) :: (28, 150) :: (29, 151) :: (30, 152) :: (31, 153) :: (32, 154) :: (33, 155) :: (34, 156) :: (35, 157) :: (36, 158) :: (37, 159) :: (38, 160) :: (39, 161) :: (40, 162) :: (41, 163) :: (42, 164) :: (43, 2) :: []) (.det _ :: .det _ :: .det _ :: .det _ :: .det _ :: .det _ :: .det _ :: .det _ :: .det _ :: .det _ :: .det _ :: .det _ :: .det _ :: .det _ :: .det _ :: .det _ :: .det _ :: .det _ :: .det _ :: .det _ :: .det _ :: .det _ :: .det _ :: .det _ :: .det _ :: .det _ :: .det _ :: .det _ :: .det _ :: .det _ :: .det _ :: .det _ :: .det _ :: .det _ :: .det _ :: .det _ :: .det _ :: .det _ :: .det _ :: .det _ :: .det _ :: .det _ :: .det _ :: .det _ :: []) (by kernel_rfl) (by kernel_rfl) (by kernel_rfl) rfl (by kernel_rfl) (by kernel_rfl) rfl (by kernel_rfl) ?hone ?hend
     case hone =>
      intro CS frS VS hCS ha hV
      have qs5 := slot_val (t := 5) ha rfl
      simp only [List.getElem_toArray, List.getElem_cons_succ, List.getElem_cons_zero] at qs5
      have qs6 := slot_val (t := 6) ha rfl
      simp only [List.getElem_toArray, List.getElem_cons_succ, List.getElem_cons_zero] at qs6
      have qs7 := slot_val (t := 7) ha rfl
      simp only [List.getElem_toArray, List.getElem_cons_succ, List.getElem_cons_zero] at qs7
      have qs9 := slot_val (t := 9) ha rfl
      simp only [List.getElem_toArray, List.getElem_cons_succ, List.getElem_cons_zero] at qs9
      have qs10 := slot_val (t := 10) ha rfl
      simp only [List.getElem_toArray, List.getElem_cons_succ, List.getElem_cons_zero] at qs10
      have qs12 := slot_val (t := 12) ha rfl
      simp only [List.getElem_toArray, List.getElem_cons_succ, List.getElem_cons_zero] at qs12
      have HCS := Lib.hid hCS
      have HVS := Lib.hid hV
      clear ha hCS hV
      refine sure_det (js := []) (ts := [7]) (gd := none) (place_at HVS.out (k := 0) rfl) (by rw [HCS.out]; kernel_rfl) ?_ ?_
      ·intro wx hx ρ hρ hs hf; have hρc := hρ.const; have hρf := hρ.func
       obtain ⟨fx7, -⟩ := hf; rw [qs7] at fx7
       clear hs
       clear HCS HVS qs5 qs6 qs7 qs9 qs10 qs12
       refine run_plain ?_
       refine op_move rfl fx7 ?_
       exact detK.mk
      refine sure_det (js := [(0, 122)]) (ts := []) (gd := none) (place_at HVS.out (k := 1) rfl) (by rw [HCS.out]; kernel_rfl) ?_ ?_
      ·intro wx hx ρ hρ hs hf; have hρc := hρ.const; have hρf := hρ.func; obtain ⟨sn0, -⟩ := hs; rw [place_at HVS.out (k := 0) rfl] at sn0; replace sn0 : ρ (.tmp 122) = _ := sn0
       clear hf
       clear HCS HVS qs5 qs6 qs7 qs9 qs10 qs12
       refine run_plain ?_
       refine op_move rfl sn0 ?_
       exact detK.mk
      refine sure_det (js := [(1, 123)]) (ts := [10]) (gd := (some (123, true))) (place_at HVS.out (k := 2) rfl) (by rw [HCS.out]; kernel_rfl) ?_ ?_
      ·intro wx hx ρ hρ hs hf; have hρc := hρ.const; have hρf := hρ.func; obtain ⟨sn1, -⟩ := hs
       obtain ⟨fx10, -⟩ := hf; rw [qs10] at fx10; rw [place_at HVS.out (k := 1) rfl] at sn1; replace sn1 : ρ (.tmp 123) = _ := sn1
       clear HCS HVS qs5 qs6 qs7 qs9 qs10 qs12
       first
        | (refine run_passed sn1 ?_; exact detK.mk)
        | (refine run_undef sn1 ?_; exact detK.mk)
        | (refine run_guarded sn1 ?_; unfold runs; go_simp; exact detK.mk)
      refine sure_det (js := [(2, 124), (1, 123)]) (ts := []) (gd := (some (123, true))) (place_at HVS.out (k := 3) rfl) (by rw [HCS.out]; kernel_rfl) ?_ ?_
      ·intro wx hx ρ hρ hs hf; have hρc := hρ.const; have hρf := hρ.func; obtain ⟨sn2, sn1, -⟩ := hs; rw [place_at HVS.out (k := 2) rfl] at sn2; replace sn2 : ρ (.tmp 124) = _ := sn2; rw [place_at HVS.out (k := 1) rfl] at sn1; replace sn1 : ρ (.tmp 123) = _ := sn1
       clear hf
       clear HCS HVS qs5 qs6 qs7 qs9 qs10 qs12
       first
        | (refine run_passed sn1 ?_; exact detK.mk)
        | (refine run_undef sn1 ?_; exact detK.mk)
        | (refine run_guarded sn1 ?_; obtain ⟨k0, k1, k2, k3, k4, k5, k6, k7, k8, k9⟩ := hX wx hx.drawn; unfold runs; go_simp; exact detK.mk)
      refine sure_det (js := [(1, 123)]) (ts := [6]) (gd := (some (123, true))) (place_at HVS.out (k := 4) rfl) (by rw [HCS.out]; kernel_rfl) ?_ ?_
      ·intro wx hx ρ hρ hs hf; have hρc := hρ.const; have hρf := hρ.func; obtain ⟨sn1, -⟩ := hs
       obtain ⟨fx6, -⟩ := hf; rw [qs6] at fx6; rw [place_at HVS.out (k := 1) rfl] at sn1; replace sn1 : ρ (.tmp 123) = _ := sn1
       clear HCS HVS qs5 qs6 qs7 qs9 qs10 qs12
       first
        | (refine run_passed sn1 ?_; exact detK.mk)
        | (refine run_undef sn1 ?_; exact detK.mk)
        | (refine run_guarded sn1 ?_; refine op_move rfl fx6 ?_; exact detK.mk)
      refine sure_det (js := [(4, 126), (1, 123)]) (ts := []) (gd := (some (123, true))) (place_at HVS.out (k := 5) rfl) (by rw [HCS.out]; kernel_rfl) ?_ ?_
      ·intro wx hx ρ hρ hs hf; have hρc := hρ.const; have hρf := hρ.func; obtain ⟨sn4, sn1, -⟩ := hs; rw [place_at HVS.out (k := 4) rfl] at sn4; replace sn4 : ρ (.tmp 126) = _ := sn4; rw [place_at HVS.out (k := 1) rfl] at sn1; replace sn1 : ρ (.tmp 123) = _ := sn1
       clear hf
       clear HCS HVS qs5 qs6 qs7 qs9 qs10 qs12
       first
        | (refine run_passed sn1 ?_; exact detK.mk)
        | (refine run_undef sn1 ?_; exact detK.mk)
        | (refine run_guarded sn1 ?_; refine op_move rfl sn4 ?_; exact detK.mk)
      refine sure_det (js := [(5, 127)]) (ts := [5]) (gd := (some (127, true))) (place_at HVS.out (k := 6) rfl) (by rw [HCS.out]; kernel_rfl) ?_ ?_
      ·intro wx hx ρ hρ hs hf; have hρc := hρ.const; have hρf := hρ.func; obtain ⟨sn5, -⟩ := hs
       obtain ⟨fx5, -⟩ := hf; rw [qs5] at fx5; rw [place_at HVS.out (k := 5) rfl] at sn5; replace sn5 : ρ (.tmp 127) = _ := sn5
       clear HCS HVS qs5 qs6 qs7 qs9 qs10 qs12
       first
        | (refine run_passed sn5 ?_; exact detK.mk)
        | (refine run_undef sn5 ?_; exact detK.mk)
        | (refine run_guarded sn5 ?_; unfold runs; go_simp; exact detK.mk)
      refine sure_det (js := [(6, 128), (5, 127)]) (ts := []) (gd := (some (127, true))) (place_at HVS.out (k := 7) rfl) (by rw [HCS.out]; kernel_rfl) ?_ ?_
      ·intro wx hx ρ hρ hs hf; have hρc := hρ.const; have hρf := hρ.func; obtain ⟨sn6, sn5, -⟩ := hs; rw [place_at HVS.out (k := 6) rfl] at sn6; replace sn6 : ρ (.tmp 128) = _ := sn6; rw [place_at HVS.out (k := 5) rfl] at sn5; replace sn5 : ρ (.tmp 127) = _ := sn5
       clear hf
       clear HCS HVS qs5 qs6 qs7 qs9 qs10 qs12
       first
        | (refine run_passed sn5 ?_; exact detK.mk)
        | (refine run_undef sn5 ?_; exact detK.mk)
        | (refine run_guarded sn5 ?_; obtain ⟨k0, k1, k2, k3, k4, k5, k6, k7, k8, k9⟩ := hX wx hx.drawn; unfold runs; go_simp; exact detK.mk)
      refine sure_det (js := [(7, 129), (5, 127)]) (ts := []) (gd := (some (127, true))) (place_at HVS.out (k := 8) rfl) (by rw [HCS.out]; kernel_rfl) ?_ ?_
      ·intro wx hx ρ hρ hs hf; have hρc := hρ.const; have hρf := hρ.func; obtain ⟨sn7, sn5, -⟩ := hs; rw [place_at HVS.out (k := 7) rfl] at sn7; replace sn7 : ρ (.tmp 129) = _ := sn7; rw [place_at HVS.out (k := 5) rfl] at sn5; replace sn5 : ρ (.tmp 127) = _ := sn5
       clear hf
       clear HCS HVS qs5 qs6 qs7 qs9 qs10 qs12
       first
        | (refine run_passed sn5 ?_; exact detK.mk)
        | (refine run_undef sn5 ?_; exact detK.mk)
        | (refine run_guarded sn5 ?_; refine op_call rfl hρ Try.call36 (map_one sn7) ?_; (first | ((with_reducible refine Calls.mono (adisk_any _ _) ?_); rintro e w' ⟨rfl, rfl⟩; refine ⟨_, rfl, ?_⟩; rw [hdk]; exact detK.mk) | ((with_reducible refine Calls.mono (accright_K (hV1.ext (hx2.trans hx.drawn))) ?_); rintro e w' ⟨rfl, hx5⟩; refine ⟨_, rfl, ?_⟩; rw [hXr1]; exact detK.ext hx5)))
      refine sure_det (js := [(5, 127), (8, 130), (1, 123)]) (ts := []) (gd := (some (123, true))) (place_at HVS.out (k := 9) rfl) (by rw [HCS.out]; kernel_rfl) ?_ ?_
      ·intro wx hx ρ hρ hs hf; have hρc := hρ.const; have hρf := hρ.func; obtain ⟨sn5, sn8, sn1, -⟩ := hs; rw [place_at HVS.out (k := 5) rfl] at sn5; replace sn5 : ρ (.tmp 127) = _ := sn5; rw [place_at HVS.out (k := 8) rfl] at sn8; replace sn8 : ρ (.tmp 130) = _ := sn8; rw [place_at HVS.out (k := 1) rfl] at sn1; replace sn1 : ρ (.tmp 123) = _ := sn1
       clear hf
       clear HCS HVS qs5 qs6 qs7 qs9 qs10 qs12
       first
        | (refine run_passed sn1 ?_; exact detK.mk)
        | (refine run_undef sn1 ?_; exact detK.mk)
        | (refine run_guarded sn1 ?_; (first | refine op_pick_t rfl sn5 sn8 ?_ | refine op_pick_f rfl sn5 (hρ.const _) ?_); exact detK.mk)
      refine sure_det (js := [(3, 125), (9, 131), (1, 123)]) (ts := []) (gd := (some (123, true))) (place_at HVS.out (k := 10) rfl) (by rw [HCS.out]; kernel_rfl) ?_ ?_
      ·intro wx hx ρ hρ hs hf; have hρc := hρ.const; have hρf := hρ.func; obtain ⟨sn3, sn9, sn1, -⟩ := hs; rw [place_at HVS.out (k := 3) rfl] at sn3; replace sn3 : ρ (.tmp 125) = _ := sn3; rw [place_at HVS.out (k := 9) rfl] at sn9; replace sn9 : ρ (.tmp 131) = _ := sn9; rw [place_at HVS.out (k := 1) rfl] at sn1; replace sn1 : ρ (.tmp 123) = _ := sn1
       clear hf
       clear HCS HVS qs5 qs6 qs7 qs9 qs10 qs12
       first
        | (refine run_passed sn1 ?_; exact detK.mk)
        | (refine run_undef sn1 ?_; exact detK.mk)
        | (refine run_guarded sn1 ?_; unfold runs; go_simp; exact detK.mk)
      refine sure_det (js := [(1, 123), (10, 132)]) (ts := []) (gd := none) (place_at HVS.out (k := 11) rfl) (by rw [HCS.out]; kernel_rfl) ?_ ?_
      ·intro wx hx ρ hρ hs hf; have hρc := hρ.const; have hρf := hρ.func; obtain ⟨sn1, sn10, -⟩ := hs; rw [place_at HVS.out (k := 1) rfl] at sn1; replace sn1 : ρ (.tmp 123) = _ := sn1; rw [place_at HVS.out (k := 10) rfl] at sn10; replace sn10 : ρ (.tmp 132) = _ := sn10
       clear hf
       clear HCS HVS qs5 qs6 qs7 qs9 qs10 qs12
       refine run_plain ?_
       first | refine op_pick_t rfl sn1 sn10 ?_ | refine op_pick_f rfl sn1 (hρ.const _) ?_
       exact detK.mk
      refine sure_det (js := [(11, 133)]) (ts := []) (gd := none) (place_at HVS.out (k := 12) rfl) (by rw [HCS.out]; kernel_rfl) ?_ ?_
      ·intro wx hx ρ hρ hs hf; have hρc := hρ.const; have hρf := hρ.func; obtain ⟨sn11, -⟩ := hs; rw [place_at HVS.out (k := 11) rfl] at sn11; replace sn11 : ρ (.tmp 133) = _ := sn11
       clear hf
       clear HCS HVS qs5 qs6 qs7 qs9 qs10 qs12
       refine run_plain ?_
       refine op_move rfl sn11 ?_
       exact detK.mk
      refine sure_det (js := [(12, 134)]) (ts := [5]) (gd := (some (134, true))) (place_at HVS.out (k := 13) rfl) (by rw [HCS.out]; kernel_rfl) ?_ ?_
      ·intro wx hx ρ hρ hs hf; have hρc := hρ.const; have hρf := hρ.func; obtain ⟨sn12, -⟩ := hs
       obtain ⟨fx5, -⟩ := hf; rw [qs5] at fx5; rw [place_at HVS.out (k := 12) rfl] at sn12; replace sn12 : ρ (.tmp 134) = _ := sn12
       clear HCS HVS qs5 qs6 qs7 qs9 qs10 qs12
       first
        | (refine run_passed sn12 ?_; exact detK.mk)
        | (refine run_undef sn12 ?_; exact detK.mk)
        | (refine run_guarded sn12 ?_; unfold runs; go_simp; exact detK.mk)
      refine sure_det (js := [(13, 135), (12, 134)]) (ts := []) (gd := (some (134, true))) (place_at HVS.out (k := 14) rfl) (by rw [HCS.out]; kernel_rfl) ?_ ?_
      ·intro wx hx ρ hρ hs hf; have hρc := hρ.const; have hρf := hρ.func; obtain ⟨sn13, sn12, -⟩ := hs; rw [place_at HVS.out (k := 13) rfl] at sn13; replace sn13 : ρ (.tmp 135) = _ := sn13; rw [place_at HVS.out (k := 12) rfl] at sn12; replace sn12 : ρ (.tmp 134) = _ := sn12
       clear hf
       clear HCS HVS qs5 qs6 qs7 qs9 qs10 qs12
       first
        | (refine run_passed sn12 ?_; exact detK.mk)
        | (refine run_undef sn12 ?_; exact detK.mk)
        | (refine run_guarded sn12 ?_; obtain ⟨k0, k1, k2, k3, k4, k5, k6, k7, k8, k9⟩ := hX wx hx.drawn; unfold runs; go_simp; exact detK.mk)
      refine sure_det (js := [(14, 136), (12, 134)]) (ts := []) (gd := (some (134, true))) (place_at HVS.out (k := 15) rfl) (by rw [HCS.out]; kernel_rfl) ?_ ?_
      ·intro wx hx ρ hρ hs hf; have hρc := hρ.const; have hρf := hρ.func; obtain ⟨sn14, sn12, -⟩ := hs; rw [place_at HVS.out (k := 14) rfl] at sn14; replace sn14 : ρ (.tmp 136) = _ := sn14; rw [place_at HVS.out (k := 12) rfl] at sn12; replace sn12 : ρ (.tmp 134) = _ := sn12
       clear hf
       clear HCS HVS qs5 qs6 qs7 qs9 qs10 qs12
       first
        | (refine run_passed sn12 ?_; exact detK.mk)
        | (refine run_undef sn12 ?_; exact detK.mk)
        | (refine run_guarded sn12 ?_; refine op_call rfl hρ Try.call36 (map_one sn14) ?_; (first | ((with_reducible refine Calls.mono (adisk_any _ _) ?_); rintro e w' ⟨rfl, rfl⟩; refine ⟨_, rfl, ?_⟩; rw [hdk]; exact detK.mk) | ((with_reducible refine Calls.mono (accright_K (hV1.ext (hx2.trans hx.drawn))) ?_); rintro e w' ⟨rfl, hx5⟩; refine ⟨_, rfl, ?_⟩; rw [hXr1]; exact detK.ext hx5)))
      refine sure_det (js := [(15, 137), (12, 134)]) (ts := []) (gd := (some (134, true))) (place_at HVS.out (k := 16) rfl) (by rw [HCS.out]; kernel_rfl) ?_ ?_
      ·intro wx hx ρ hρ hs hf; have hρc := hρ.const; have hρf := hρ.func; obtain ⟨sn15, sn12, -⟩ := hs; rw [place_at HVS.out (k := 15) rfl] at sn15; replace sn15 : ρ (.tmp 137) = _ := sn15; rw [place_at HVS.out (k := 12) rfl] at sn12; replace sn12 : ρ (.tmp 134) = _ := sn12
       clear hf
       clear HCS HVS qs5 qs6 qs7 qs9 qs10 qs12
       first
        | (refine run_passed sn12 ?_; exact detK.mk)
        | (refine run_undef sn12 ?_; exact detK.mk)
        | (refine run_guarded sn12 ?_; refine op_move rfl sn15 ?_; exact detK.mk)
      refine sure_det (js := [(16, 138)]) (ts := [12]) (gd := (some (138, false))) (place_at HVS.out (k := 17) rfl) (by rw [HCS.out]; kernel_rfl) ?_ ?_
      ·intro wx hx ρ hρ hs hf; have hρc := hρ.const; have hρf := hρ.func; obtain ⟨sn16, -⟩ := hs
       obtain ⟨fx12, -⟩ := hf; rw [qs12] at fx12; rw [place_at HVS.out (k := 16) rfl] at sn16; replace sn16 : ρ (.tmp 138) = _ := sn16
       clear HCS HVS qs5 qs6 qs7 qs9 qs10 qs12
       first
        | (refine run_passed sn16 ?_; exact detK.mk)
        | (refine run_undef sn16 ?_; exact detK.mk)
        | (refine run_guarded sn16 ?_; refine op_move rfl fx12 ?_; exact detK.mk)
      refine sure_det (js := [(16, 138), (17, 139), (12, 134)]) (ts := []) (gd := (some (134, true))) (place_at HVS.out (k := 18) rfl) (by rw [HCS.out]; kernel_rfl) ?_ ?_
      ·intro wx hx ρ hρ hs hf; have hρc := hρ.const; have hρf := hρ.func; obtain ⟨sn16, sn17, sn12, -⟩ := hs; rw [place_at HVS.out (k := 16) rfl] at sn16; replace sn16 : ρ (.tmp 138) = _ := sn16; rw [place_at HVS.out (k := 17) rfl] at sn17; replace sn17 : ρ (.tmp 139) = _ := sn17; rw [place_at HVS.out (k := 12) rfl] at sn12; replace sn12 : ρ (.tmp 134) = _ := sn12
       clear hf
       clear HCS HVS qs5 qs6 qs7 qs9 qs10 qs12
       first
        | (refine run_passed sn12 ?_; exact detK.mk)
        | (refine run_undef sn12 ?_; exact detK.mk)
        | (refine run_guarded sn12 ?_; (first | refine op_pick_t rfl sn16 (hρ.const _) ?_ | refine op_pick_f rfl sn16 sn17 ?_); exact detK.mk)
      refine sure_det (js := [(12, 134), (18, 140)]) (ts := []) (gd := none) (place_at HVS.out (k := 19) rfl) (by rw [HCS.out]; kernel_rfl) ?_ ?_
      ·intro wx hx ρ hρ hs hf; have hρc := hρ.const; have hρf := hρ.func; obtain ⟨sn12, sn18, -⟩ := hs; rw [place_at HVS.out (k := 12) rfl] at sn12; replace sn12 : ρ (.tmp 134) = _ := sn12; rw [place_at HVS.out (k := 18) rfl] at sn18; replace sn18 : ρ (.tmp 140) = _ := sn18
       clear hf
       clear HCS HVS qs5 qs6 qs7 qs9 qs10 qs12
       refine run_plain ?_
       first | refine op_pick_t rfl sn12 sn18 ?_ | refine op_pick_f rfl sn12 (hρ.const _) ?_
       exact detK.mk
      refine sure_det (js := [(19, 141)]) (ts := []) (gd := none) (place_at HVS.out (k := 20) rfl) (by rw [HCS.out]; kernel_rfl) ?_ ?_
      ·intro wx hx ρ hρ hs hf; have hρc := hρ.const; have hρf := hρ.func; obtain ⟨sn19, -⟩ := hs; rw [place_at HVS.out (k := 19) rfl] at sn19; replace sn19 : ρ (.tmp 141) = _ := sn19
       clear hf
       clear HCS HVS qs5 qs6 qs7 qs9 qs10 qs12
       refine run_plain ?_
       refine op_move rfl sn19 ?_
       exact detK.mk
      refine sure_det (js := [(20, 142)]) (ts := [10]) (gd := (some (142, true))) (place_at HVS.out (k := 21) rfl) (by rw [HCS.out]; kernel_rfl) ?_ ?_
      ·intro wx hx ρ hρ hs hf; have hρc := hρ.const; have hρf := hρ.func; obtain ⟨sn20, -⟩ := hs
       obtain ⟨fx10, -⟩ := hf; rw [qs10] at fx10; rw [place_at HVS.out (k := 20) rfl] at sn20; replace sn20 : ρ (.tmp 142) = _ := sn20
       clear HCS HVS qs5 qs6 qs7 qs9 qs10 qs12
       first
        | (refine run_passed sn20 ?_; exact detK.mk)
        | (refine run_undef sn20 ?_; exact detK.mk)
        | (refine run_guarded sn20 ?_; unfold runs; go_simp; exact detK.mk)
      refine sure_det (js := [(21, 143), (20, 142)]) (ts := []) (gd := (some (142, true))) (place_at HVS.out (k := 22) rfl) (by rw [HCS.out]; kernel_rfl) ?_ ?_
      ·intro wx hx ρ hρ hs hf; have hρc := hρ.const; have hρf := hρ.func; obtain ⟨sn21, sn20, -⟩ := hs; rw [place_at HVS.out (k := 21) rfl] at sn21; replace sn21 : ρ (.tmp 143) = _ := sn21; rw [place_at HVS.out (k := 20) rfl] at sn20; replace sn20 : ρ (.tmp 142) = _ := sn20
       clear hf
       clear HCS HVS qs5 qs6 qs7 qs9 qs10 qs12
       first
        | (refine run_passed sn20 ?_; exact detK.mk)
        | (refine run_undef sn20 ?_; exact detK.mk)
        | (refine run_guarded sn20 ?_; obtain ⟨k0, k1, k2, k3, k4, k5, k6, k7, k8, k9⟩ := hX wx hx.drawn; unfold runs; go_simp; exact detK.mk)
      refine sure_det (js := [(22, 144), (20, 142)]) (ts := []) (gd := (some (142, true))) (place_at HVS.out (k := 23) rfl) (by rw [HCS.out]; kernel_rfl) ?_ ?_
      ·intro wx hx ρ hρ hs hf; have hρc := hρ.const; have hρf := hρ.func; obtain ⟨sn22, sn20, -⟩ := hs; rw [place_at HVS.out (k := 22) rfl] at sn22; replace sn22 : ρ (.tmp 144) = _ := sn22; rw [place_at HVS.out (k := 20) rfl] at sn20; replace sn20 : ρ (.tmp 142) = _ := sn20
       clear hf
       clear HCS HVS qs5 qs6 qs7 qs9 qs10 qs12
       first
        | (refine run_passed sn20 ?_; exact detK.mk)
        | (refine run_undef sn20 ?_; exact detK.mk)
        | (refine run_guarded sn20 ?_; unfold runs; go_simp; exact detK.mk)
      refine sure_det (js := [(23, 145), (20, 142)]) (ts := []) (gd := (some (142, true))) (place_at HVS.out (k := 24) rfl) (by rw [HCS.out]; kernel_rfl) ?_ ?_
      ·intro wx hx ρ hρ hs hf; have hρc := hρ.const; have hρf := hρ.func; obtain ⟨sn23, sn20, -⟩ := hs; rw [place_at HVS.out (k := 23) rfl] at sn23; replace sn23 : ρ (.tmp 145) = _ := sn23; rw [place_at HVS.out (k := 20) rfl] at sn20; replace sn20 : ρ (.tmp 142) = _ := sn20
       clear hf
       clear HCS HVS qs5 qs6 qs7 qs9 qs10 qs12
       first
        | (refine run_passed sn20 ?_; exact detK.mk)
        | (refine run_undef sn20 ?_; exact detK.mk)
        | (refine run_guarded sn20 ?_; refine op_move rfl sn23 ?_; exact detK.mk)
      refine sure_det (js := [(24, 146)]) (ts := [12]) (gd := (some (146, false))) (place_at HVS.out (k := 25) rfl) (by rw [HCS.out]; kernel_rfl) ?_ ?_
      ·intro wx hx ρ hρ hs hf; have hρc := hρ.const; have hρf := hρ.func; obtain ⟨sn24, -⟩ := hs
       obtain ⟨fx12, -⟩ := hf; rw [qs12] at fx12; rw [place_at HVS.out (k := 24) rfl] at sn24; replace sn24 : ρ (.tmp 146) = _ := sn24
       clear HCS HVS qs5 qs6 qs7 qs9 qs10 qs12
       first
        | (refine run_passed sn24 ?_; exact detK.mk)
        | (refine run_undef sn24 ?_; exact detK.mk)
        | (refine run_guarded sn24 ?_; refine op_move rfl fx12 ?_; exact detK.mk)
      refine sure_det (js := [(25, 147), (24, 146)]) (ts := []) (gd := (some (146, false))) (place_at HVS.out (k := 26) rfl) (by rw [HCS.out]; kernel_rfl) ?_ ?_
      ·intro wx hx ρ hρ hs hf; have hρc := hρ.const; have hρf := hρ.func; obtain ⟨sn25, sn24, -⟩ := hs; rw [place_at HVS.out (k := 25) rfl] at sn25; replace sn25 : ρ (.tmp 147) = _ := sn25; rw [place_at HVS.out (k := 24) rfl] at sn24; replace sn24 : ρ (.tmp 146) = _ := sn24
       clear hf
       clear HCS HVS qs5 qs6 qs7 qs9 qs10 qs12
       first
        | (refine run_passed sn24 ?_; exact detK.mk)
        | (refine run_undef sn24 ?_; exact detK.mk)
        | (refine run_guarded sn24 ?_; refine op_move rfl sn25 ?_; exact detK.mk)
      refine sure_det (js := [(26, 148)]) (ts := [10]) (gd := (some (148, true))) (place_at HVS.out (k := 27) rfl) (by rw [HCS.out]; kernel_rfl) ?_ ?_
      ·intro wx hx ρ hρ hs hf; have hρc := hρ.const; have hρf := hρ.func; obtain ⟨sn26, -⟩ := hs
       obtain ⟨fx10, -⟩ := hf; rw [qs10] at fx10; rw [place_at HVS.out (k := 26) rfl] at sn26; replace sn26 : ρ (.tmp 148) = _ := sn26
       clear HCS HVS qs5 qs6 qs7 qs9 qs10 qs12
       first
        | (refine run_passed sn26 ?_; exact detK.mk)
        | (refine run_undef sn26 ?_; exact detK.mk)
        | (refine run_guarded sn26 ?_; unfold runs; go_simp; exact detK.mk)
      refine sure_det (js := [(27, 149), (26, 148)]) (ts := []) (gd := (some (148, true))) (place_at HVS.out (k := 28) rfl) (by rw [HCS.out]; kernel_rfl) ?_ ?_
      ·intro wx hx ρ hρ hs hf; have hρc := hρ.const; have hρf := hρ.func; obtain ⟨sn27, sn26, -⟩ := hs; rw [place_at HVS.out (k := 27) rfl] at sn27; replace sn27 : ρ (.tmp 149) = _ := sn27; rw [place_at HVS.out (k := 26) rfl] at sn26; replace sn26 : ρ (.tmp 148) = _ := sn26
       clear hf
       clear HCS HVS qs5 qs6 qs7 qs9 qs10 qs12
       first
        | (refine run_passed sn26 ?_; exact detK.mk)
        | (refine run_undef sn26 ?_; exact detK.mk)
        | (refine run_guarded sn26 ?_; obtain ⟨k0, k1, k2, k3, k4, k5, k6, k7, k8, k9⟩ := hX wx hx.drawn; unfold runs; go_simp; exact detK.mk)
      refine sure_det (js := [(28, 150), (26, 148)]) (ts := []) (gd := (some (148, true))) (place_at HVS.out (k := 29) rfl) (by rw [HCS.out]; kernel_rfl) ?_ ?_
      ·intro wx hx ρ hρ hs hf; have hρc := hρ.const; have hρf := hρ.func; obtain ⟨sn28, sn26, -⟩ := hs; rw [place_at HVS.out (k := 28) rfl] at sn28; replace sn28 : ρ (.tmp 150) = _ := sn28; rw [place_at HVS.out (k := 26) rfl] at sn26; replace sn26 : ρ (.tmp 148) = _ := sn26
       clear hf
       clear HCS HVS qs5 qs6 qs7 qs9 qs10 qs12
       first
        | (refine run_passed sn26 ?_; exact detK.mk)
        | (refine run_undef sn26 ?_; exact detK.mk)
        | (refine run_guarded sn26 ?_; unfold runs; go_simp; exact detK.mk)
      refine sure_det (js := [(29, 151), (26, 148)]) (ts := []) (gd := (some (148, true))) (place_at HVS.out (k := 30) rfl) (by rw [HCS.out]; kernel_rfl) ?_ ?_
      ·intro wx hx ρ hρ hs hf; have hρc := hρ.const; have hρf := hρ.func; obtain ⟨sn29, sn26, -⟩ := hs; rw [place_at HVS.out (k := 29) rfl] at sn29; replace sn29 : ρ (.tmp 151) = _ := sn29; rw [place_at HVS.out (k := 26) rfl] at sn26; replace sn26 : ρ (.tmp 148) = _ := sn26
       clear hf
       clear HCS HVS qs5 qs6 qs7 qs9 qs10 qs12
       first
        | (refine run_passed sn26 ?_; exact detK.mk)
        | (refine run_undef sn26 ?_; exact detK.mk)
        | (refine run_guarded sn26 ?_; unfold runs; go_simp; exact detK.mk)
      refine sure_det (js := [(26, 148), (30, 152), (24, 146)]) (ts := []) (gd := (some (146, false))) (place_at HVS.out (k := 31) rfl) (by rw [HCS.out]; kernel_rfl) ?_ ?_
      ·intro wx hx ρ hρ hs hf; have hρc := hρ.const; have hρf := hρ.func; obtain ⟨sn26, sn30, sn24, -⟩ := hs; rw [place_at HVS.out (k := 26) rfl] at sn26; replace sn26 : ρ (.tmp 148) = _ := sn26; rw [place_at HVS.out (k := 30) rfl] at sn30; replace sn30 : ρ (.tmp 152) = _ := sn30; rw [place_at HVS.out (k := 24) rfl] at sn24; replace sn24 : ρ (.tmp 146) = _ := sn24
       clear hf
       clear HCS HVS qs5 qs6 qs7 qs9 qs10 qs12
       first
        | (refine run_passed sn24 ?_; exact detK.mk)
        | (refine run_undef sn24 ?_; exact detK.mk)
        | (refine run_guarded sn24 ?_; (first | refine op_pick_t rfl sn26 sn30 ?_ | refine op_pick_f rfl sn26 (hρ.const _) ?_); exact detK.mk)
      refine sure_det (js := [(31, 153), (24, 146)]) (ts := []) (gd := (some (146, false))) (place_at HVS.out (k := 32) rfl) (by rw [HCS.out]; kernel_rfl) ?_ ?_
      ·intro wx hx ρ hρ hs hf; have hρc := hρ.const; have hρf := hρ.func; obtain ⟨sn31, sn24, -⟩ := hs; rw [place_at HVS.out (k := 31) rfl] at sn31; replace sn31 : ρ (.tmp 153) = _ := sn31; rw [place_at HVS.out (k := 24) rfl] at sn24; replace sn24 : ρ (.tmp 146) = _ := sn24
       clear hf
       clear HCS HVS qs5 qs6 qs7 qs9 qs10 qs12
       first
        | (refine run_passed sn24 ?_; exact detK.mk)
        | (refine run_undef sn24 ?_; exact detK.mk)
        | (refine run_guarded sn24 ?_; refine op_move rfl sn31 ?_; exact detK.mk)
      refine sure_det (js := [(32, 154)]) (ts := [10]) (gd := (some (154, true))) (place_at HVS.out (k := 33) rfl) (by rw [HCS.out]; kernel_rfl) ?_ ?_
      ·intro wx hx ρ hρ hs hf; have hρc := hρ.const; have hρf := hρ.func; obtain ⟨sn32, -⟩ := hs
       obtain ⟨fx10, -⟩ := hf; rw [qs10] at fx10; rw [place_at HVS.out (k := 32) rfl] at sn32; replace sn32 : ρ (.tmp 154) = _ := sn32
       clear HCS HVS qs5 qs6 qs7 qs9 qs10 qs12
       first
        | (refine run_passed sn32 ?_; exact detK.mk)
        | (refine run_undef sn32 ?_; exact detK.mk)
        | (refine run_guarded sn32 ?_; unfold runs; go_simp; exact detK.mk)
      refine sure_det (js := [(33, 155), (32, 154)]) (ts := []) (gd := (some (154, true))) (place_at HVS.out (k := 34) rfl) (by rw [HCS.out]; kernel_rfl) ?_ ?_
      ·intro wx hx ρ hρ hs hf; have hρc := hρ.const; have hρf := hρ.func; obtain ⟨sn33, sn32, -⟩ := hs; rw [place_at HVS.out (k := 33) rfl] at sn33; replace sn33 : ρ (.tmp 155) = _ := sn33; rw [place_at HVS.out (k := 32) rfl] at sn32; replace sn32 : ρ (.tmp 154) = _ := sn32
       clear hf
       clear HCS HVS qs5 qs6 qs7 qs9 qs10 qs12
       first
        | (refine run_passed sn32 ?_; exact detK.mk)
        | (refine run_undef sn32 ?_; exact detK.mk)
        | (refine run_guarded sn32 ?_; obtain ⟨k0, k1, k2, k3, k4, k5, k6, k7, k8, k9⟩ := hX wx hx.drawn; unfold runs; go_simp; exact detK.mk)
      refine sure_det (js := [(34, 156), (32, 154)]) (ts := []) (gd := (some (154, true))) (place_at HVS.out (k := 35) rfl) (by rw [HCS.out]; kernel_rfl) ?_ ?_
      ·intro wx hx ρ hρ hs hf; have hρc := hρ.const; have hρf := hρ.func; obtain ⟨sn34, sn32, -⟩ := hs; rw [place_at HVS.out (k := 34) rfl] at sn34; replace sn34 : ρ (.tmp 156) = _ := sn34; rw [place_at HVS.out (k := 32) rfl] at sn32; replace sn32 : ρ (.tmp 154) = _ := sn32
       clear hf
       clear HCS HVS qs5 qs6 qs7 qs9 qs10 qs12
       first
        | (refine run_passed sn32 ?_; exact detK.mk)
        | (refine run_undef sn32 ?_; exact detK.mk)
        | (refine run_guarded sn32 ?_; unfold runs; go_simp; exact detK.mk)
      refine sure_det (js := [(32, 154), (35, 157), (24, 146)]) (ts := []) (gd := (some (146, false))) (place_at HVS.out (k := 36) rfl) (by rw [HCS.out]; kernel_rfl) ?_ ?_
      ·intro wx hx ρ hρ hs hf; have hρc := hρ.const; have hρf := hρ.func; obtain ⟨sn32, sn35, sn24, -⟩ := hs; rw [place_at HVS.out (k := 32) rfl] at sn32; replace sn32 : ρ (.tmp 154) = _ := sn32; rw [place_at HVS.out (k := 35) rfl] at sn35; replace sn35 : ρ (.tmp 157) = _ := sn35; rw [place_at HVS.out (k := 24) rfl] at sn24; replace sn24 : ρ (.tmp 146) = _ := sn24
       clear hf
       clear HCS HVS qs5 qs6 qs7 qs9 qs10 qs12
       first
        | (refine run_passed sn24 ?_; exact detK.mk)
        | (refine run_undef sn24 ?_; exact detK.mk)
        | (refine run_guarded sn24 ?_; (first | refine op_pick_t rfl sn32 sn35 ?_ | refine op_pick_f rfl sn32 (hρ.const _) ?_); exact detK.mk)
      refine sure_det (js := [(24, 146), (36, 158), (20, 142)]) (ts := []) (gd := (some (142, true))) (place_at HVS.out (k := 37) rfl) (by rw [HCS.out]; kernel_rfl) ?_ ?_
      ·intro wx hx ρ hρ hs hf; have hρc := hρ.const; have hρf := hρ.func; obtain ⟨sn24, sn36, sn20, -⟩ := hs; rw [place_at HVS.out (k := 24) rfl] at sn24; replace sn24 : ρ (.tmp 146) = _ := sn24; rw [place_at HVS.out (k := 36) rfl] at sn36; replace sn36 : ρ (.tmp 158) = _ := sn36; rw [place_at HVS.out (k := 20) rfl] at sn20; replace sn20 : ρ (.tmp 142) = _ := sn20
       clear hf
       clear HCS HVS qs5 qs6 qs7 qs9 qs10 qs12
       first
        | (refine run_passed sn20 ?_; exact detK.mk)
        | (refine run_undef sn20 ?_; exact detK.mk)
        | (refine run_guarded sn20 ?_; (first | refine op_pick_t rfl sn24 (hρ.const _) ?_ | refine op_pick_f rfl sn24 sn36 ?_); exact detK.mk)
      refine sure_det (js := [(20, 142), (37, 159)]) (ts := []) (gd := none) (place_at HVS.out (k := 38) rfl) (by rw [HCS.out]; kernel_rfl) ?_ ?_
      ·intro wx hx ρ hρ hs hf; have hρc := hρ.const; have hρf := hρ.func; obtain ⟨sn20, sn37, -⟩ := hs; rw [place_at HVS.out (k := 20) rfl] at sn20; replace sn20 : ρ (.tmp 142) = _ := sn20; rw [place_at HVS.out (k := 37) rfl] at sn37; replace sn37 : ρ (.tmp 159) = _ := sn37
       clear hf
       clear HCS HVS qs5 qs6 qs7 qs9 qs10 qs12
       refine run_plain ?_
       first | refine op_pick_t rfl sn20 sn37 ?_ | refine op_pick_f rfl sn20 (hρ.const _) ?_
       exact detK.mk
      refine sure_det (js := [(38, 160)]) (ts := []) (gd := none) (place_at HVS.out (k := 39) rfl) (by rw [HCS.out]; kernel_rfl) ?_ ?_
      ·intro wx hx ρ hρ hs hf; have hρc := hρ.const; have hρf := hρ.func; obtain ⟨sn38, -⟩ := hs; rw [place_at HVS.out (k := 38) rfl] at sn38; replace sn38 : ρ (.tmp 160) = _ := sn38
       clear hf
       clear HCS HVS qs5 qs6 qs7 qs9 qs10 qs12
       refine run_plain ?_
       refine op_move rfl sn38 ?_
       exact detK.mk
      refine sure_det (js := [(39, 161)]) (ts := [9]) (gd := (some (161, true))) (place_at HVS.out (k := 40) rfl) (by rw [HCS.out]; kernel_rfl) ?_ ?_
      ·intro wx hx ρ hρ hs hf; have hρc := hρ.const; have hρf := hρ.func; obtain ⟨sn39, -⟩ := hs
       obtain ⟨fx9, -⟩ := hf; rw [qs9] at fx9; rw [place_at HVS.out (k := 39) rfl] at sn39; replace sn39 : ρ (.tmp 161) = _ := sn39
       clear HCS HVS qs5 qs6 qs7 qs9 qs10 qs12
       first
        | (refine run_passed sn39 ?_; exact detK.mk)
        | (refine run_undef sn39 ?_; exact detK.mk)
        | (refine run_guarded sn39 ?_; obtain ⟨k0, k1, k2, k3, k4, k5, k6, k7, k8, k9⟩ := hX wx hx.drawn; unfold runs; go_simp; exact detK.mk)
      refine sure_det (js := [(40, 162), (39, 161)]) (ts := []) (gd := (some (161, true))) (place_at HVS.out (k := 41) rfl) (by rw [HCS.out]; kernel_rfl) ?_ ?_
      ·intro wx hx ρ hρ hs hf; have hρc := hρ.const; have hρf := hρ.func; obtain ⟨sn40, sn39, -⟩ := hs; rw [place_at HVS.out (k := 40) rfl] at sn40; replace sn40 : ρ (.tmp 162) = _ := sn40; rw [place_at HVS.out (k := 39) rfl] at sn39; replace sn39 : ρ (.tmp 161) = _ := sn39
       clear hf
       clear HCS HVS qs5 qs6 qs7 qs9 qs10 qs12
       first
        | (refine run_passed sn39 ?_; exact detK.mk)
        | (refine run_undef sn39 ?_; exact detK.mk)
        | (refine run_guarded sn39 ?_; refine op_call rfl hρ Try.call35 (map_one sn40) ?_; (first | ((with_reducible refine Calls.mono (adisk_any _ _) ?_); rintro e w' ⟨rfl, rfl⟩; refine ⟨_, rfl, ?_⟩; rw [hdk]; exact detK.mk) | ((with_reducible refine Calls.mono (accright_K (hV1.ext (hx2.trans hx.drawn))) ?_); rintro e w' ⟨rfl, hx5⟩; refine ⟨_, rfl, ?_⟩; rw [hXr1]; exact detK.ext hx5)))
      refine sure_det (js := [(39, 161), (41, 163)]) (ts := []) (gd := none) (place_at HVS.out (k := 42) rfl) (by rw [HCS.out]; kernel_rfl) ?_ ?_
      ·intro wx hx ρ hρ hs hf; have hρc := hρ.const; have hρf := hρ.func; obtain ⟨sn39, sn41, -⟩ := hs; rw [place_at HVS.out (k := 39) rfl] at sn39; replace sn39 : ρ (.tmp 161) = _ := sn39; rw [place_at HVS.out (k := 41) rfl] at sn41; replace sn41 : ρ (.tmp 163) = _ := sn41
       clear hf
       clear HCS HVS qs5 qs6 qs7 qs9 qs10 qs12
       refine run_plain ?_
       first | refine op_pick_t rfl sn39 sn41 ?_ | refine op_pick_f rfl sn39 (hρ.const _) ?_
       exact detK.mk
      refine sure_det (js := [(42, 164)]) (ts := []) (gd := none) (place_at HVS.out (k := 43) rfl) (by rw [HCS.out]; kernel_rfl) ?_ ?_
      ·intro wx hx ρ hρ hs hf; have hρc := hρ.const; have hρf := hρ.func; obtain ⟨sn42, -⟩ := hs; rw [place_at HVS.out (k := 42) rfl] at sn42; replace sn42 : ρ (.tmp 164) = _ := sn42
       clear hf
       clear HCS HVS qs5 qs6 qs7 qs9 qs10 qs12
       refine run_plain ?_
       refine op_assign rfl sn42 ?_
       exact detK.mk
      exact trivial
     case hend =>
      intro xs wx hx hg
      have gk0 : xs 0 = _ := goods_get hg (i := 0) (j := 0) (d := 122) rfl
      have gk1 : xs 1 = _ := goods_get hg (i := 1) (j := 1) (d := 123) rfl
      have gk2 : xs 2 = _ := goods_get hg (i := 2) (j := 2) (d := 124) rfl
      have gk3 : xs 3 = _ := goods_get hg (i := 3) (j := 3) (d := 125) rfl
      have gk4 : xs 4 = _ := goods_get hg (i := 4) (j := 4) (d := 126) rfl
      have gk5 : xs 5 = _ := goods_get hg (i := 5) (j := 5) (d := 127) rfl
      have gk6 : xs 6 = _ := goods_get hg (i := 6) (j := 6) (d := 128) rfl
      have gk7 : xs 7 = _ := goods_get hg (i := 7) (j := 7) (d := 129) rfl
      have gk8 : xs 8 = _ := goods_get hg (i := 8) (j := 8) (d := 130) rfl
      have gk9 : xs 9 = _ := goods_get hg (i := 9) (j := 9) (d := 131) rfl
      have gk10 : xs 10 = _ := goods_get hg (i := 10) (j := 10) (d := 132) rfl
      have gk11 : xs 11 = _ := goods_get hg (i := 11) (j := 11) (d := 133) rfl
      have gk12 : xs 12 = _ := goods_get hg (i := 12) (j := 12) (d := 134) rfl
      have gk13 : xs 13 = _ := goods_get hg (i := 13) (j := 13) (d := 135) rfl
      have gk14 : xs 14 = _ := goods_get hg (i := 14) (j := 14) (d := 136) rfl
      have gk15 : xs 15 = _ := goods_get hg (i := 15) (j := 15) (d := 137) rfl
      have gk16 : xs 16 = _ := goods_get hg (i := 16) (j := 16) (d := 138) rfl
      have gk17 : xs 17 = _ := goods_get hg (i := 17) (j := 17) (d := 139) rfl
      have gk18 : xs 18 = _ := goods_get hg (i := 18) (j := 18) (d := 140) rfl
      have gk19 : xs 19 = _ := goods_get hg (i := 19) (j := 19) (d := 141) rfl
      have gk20 : xs 20 = _ := goods_get hg (i := 20) (j := 20) (d := 142) rfl
      have gk21 : xs 21 = _ := goods_get hg (i := 21) (j := 21) (d := 143) rfl
      have gk22 : xs 22 = _ := goods_get hg (i := 22) (j := 22) (d := 144) rfl
      have gk23 : xs 23 = _ := goods_get hg (i := 23) (j := 23) (d := 145) rfl
      have gk24 : xs 24 = _ := goods_get hg (i := 24) (j := 24) (d := 146) rfl
      have gk25 : xs 25 = _ := goods_get hg (i := 25) (j := 25) (d := 147) rfl
      have gk26 : xs 26 = _ := goods_get hg (i := 26) (j := 26) (d := 148) rfl
      have gk27 : xs 27 = _ := goods_get hg (i := 27) (j := 27) (d := 149) rfl
      have gk28 : xs 28 = _ := goods_get hg (i := 28) (j := 28) (d := 150) rfl
      have gk29 : xs 29 = _ := goods_get hg (i := 29) (j := 29) (d := 151) rfl
      have gk30 : xs 30 = _ := goods_get hg (i := 30) (j := 30) (d := 152) rfl
      have gk31 : xs 31 = _ := goods_get hg (i := 31) (j := 31) (d := 153) rfl
      have gk32 : xs 32 = _ := goods_get hg (i := 32) (j := 32) (d := 154) rfl
      have gk33 : xs 33 = _ := goods_get hg (i := 33) (j := 33) (d := 155) rfl
      have gk34 : xs 34 = _ := goods_get hg (i := 34) (j := 34) (d := 156) rfl
      have gk35 : xs 35 = _ := goods_get hg (i := 35) (j := 35) (d := 157) rfl
      have gk36 : xs 36 = _ := goods_get hg (i := 36) (j := 36) (d := 158) rfl
      have gk37 : xs 37 = _ := goods_get hg (i := 37) (j := 37) (d := 159) rfl
      have gk38 : xs 38 = _ := goods_get hg (i := 38) (j := 38) (d := 160) rfl
      have gk39 : xs 39 = _ := goods_get hg (i := 39) (j := 39) (d := 161) rfl
      have gk40 : xs 40 = _ := goods_get hg (i := 40) (j := 40) (d := 162) rfl
      have gk41 : xs 41 = _ := goods_get hg (i := 41) (j := 41) (d := 163) rfl
      have gk42 : xs 42 = _ := goods_get hg (i := 42) (j := 42) (d := 164) rfl
      have gk43 : xs 43 = _ := goods_get hg (i := 43) (j := 43) (d := 2) rfl
      clear hg
      simp only [putAll, gk0, gk1, gk2, gk3, gk4, gk5, gk6, gk7, gk8, gk9, gk10, gk11, gk12, gk13, gk14, gk15, gk16, gk17, gk18, gk19, gk20, gk21, gk22, gk23, gk24, gk25, gk26, gk27, gk28, gk29, gk30, gk31, gk32, gk33, gk34, gk35, gk36, gk37, gk38, gk39, gk40, gk41, gk42, gk43]
      clear gk0 gk1 gk2 gk3 gk4 gk5 gk6 gk7 gk8 gk9 gk10 gk11 gk12 gk13 gk14 gk15 gk16 gk17 gk18 gk19 gk20 gk21 gk22 gk23 gk24 gk25 gk26 gk27 gk28 gk29 gk30 gk31 gk32 gk33 gk34 gk35 gk36 gk37 gk38 gk39 gk40 gk41 gk42 gk43
      clear xs
      simp only [Act.put, List.setIfInBounds_toArray, List.set_cons_zero, List.set_cons_succ]
      go_wp2
      go_ret
      exact ⟨rfl, hW.trans (hx2.trans hx.drawn)⟩
    ·have P3 := Lib.hid p3
     have P6 := Lib.hid p6
     have Y1 := Lib.hid y1
     have Y2 := Lib.hid y2
     clear p3 p4 p5 p6 y1 y2
     go_wp2_with fail
     obtain ⟨k1, k2, k3⟩ := P6.out (.inr (by simp))
     refine (dsame_eq hV1.dk hV.dk k1 P3.out k2 k3).mono ?_
     rintro e v2 ⟨rfl, hx2⟩
     have hfl : R1.fail = true := by rw [Y1.out, hdk]; rfl
     obtain ⟨z1, z2⟩ := Y2.out hfl
     have hys : ys1 = 0 := by rw [← hs1.len, z1]; rfl
     subst hys
     rw [hfl, z2] at hrx1
     have hX : ∀ wx, Ext v2 wx → wx.cell? ⟨g1 + 1, 0, none⟩ = some (.int .u64 0) ∧ wx.cell? ⟨g1 + 1, 1, none⟩ = some (.slice yS1 0 yt1) ∧ wx.cell? ⟨g1 + 1, 2, none⟩ = some (.bool true) ∧ wx.cell? ⟨ga, 0, none⟩ = some (.int .i64 a.kind) ∧ wx.cell? ⟨g1, 0, none⟩ = some (.int .i64 T) ∧ wx.cell? ⟨g1, 1, none⟩ = some (.int .i64 C) ∧ wx.cell? ⟨g1, 2, none⟩ = some (.slice (some a1) j xc1) ∧ wx.cell? ⟨g1, 3, none⟩ = some (.int .u64 X1.R) ∧ wx.cell? ⟨g1, 4, none⟩ = some (.slice xB1 n1 xb1) ∧ wx.cell? ⟨g1, 5, none⟩ = some (.slice xC1 n1 xd1) := fun wx hx =>
      ⟨(hx2.trans hx).cell (by simp [World.cell?, hrx1]), (hx2.trans hx).cell (by simp [World.cell?, hrx1]), (hx2.trans hx).cell (by simp [World.cell?, hrx1]), (hx2.trans hx).cell (by simp [World.cell?, hA]), (hx2.trans hx).cell (by simp [World.cell?, hbx1]), (hx2.trans hx).cell (by simp [World.cell?, hbx1]), (hx2.trans hx).cell (by simp [World.cell?, hbx1]), (hx2.trans hx).cell (by simp [World.cell?, hbx1]), (hx2.trans hx).cell (by simp [World.cell?, hbx1]), (hx2.trans hx).cell (by simp [World.cell?, hbx1])⟩
     clear x0 x1 x2 x3 x4 x5 e0 e1 e2 e3 e4 e5 P3 P6 Y1 Y2 hXw hml hj hfl hs1 hw1 hwz hV hR1 ha hwd hqc hq2 k1 k2 k3 z1 z2
     go_upto_region 18 with (fail)
     refine' wp_region_sure_all ⟨((some 122, [], none) :: (some 123, [0], none) :: (some 124, [1], some (1, true)) :: (some 125, [2, 1], some (1, true)) :: (some 126, [1], some (1, true)) :: (some 127, [4, 1, 1], some (1, true)) :: (some 128, [5], some (5, true)) :: (some 129, [6, 5], some (5, true)) :: (some 130, [7, 5, 5], some (5, true)) :: (some 131, [5, 8, 1], some (1, true)) :: (some 132, [3, 9, 1], some (1, true)) :: (some 133, [1, 10], none) :: (some 134, [11, 8], none) :: (some 135, [12], some (12, true)) :: (some 136, [13, 12], some (12, true)) :: (some 137, [14, 12, 12], some (12, true)) :: (some 138, [15, 15, 12], some (12, true)) :: (some 139, [16], some (16, false)) :: (some 140, [16, 17, 12], some (12, true)) :: (some 141, [12, 18], none) :: (some 142, [19, 16], none) :: (some 143, [20], some (20, true)) :: (some 144, [21, 20], some (20, true)) :: (some 145, [22, 20], some (20, true)) :: (some 146, [23, 20, 20], some (20, true)) :: (some 147, [24], some (24, false)) :: (some 148, [25, 24, 24], some (24, false)) :: (some 149, [26], some (26, true)) :: (some 150, [27, 26], some (26, true)) :: (some 151, [28, 26], some (26, true)) :: (some 152, [29, 26], some (26, true)) :: (some 153, [26, 30, 24], some (24, false)) :: (some 154, [31, 26, 24], some (24, false)) :: (some 155, [32], some (32, true)) :: (some 156, [33, 32], some (32, true)) :: (some 157, [34, 32], some (32, true)) :: (some 158, [32, 35, 24], some (24, false)) :: (some 159, [24, 36, 20], some (20, true)) :: (some 160, [20, 37], none) :: (some 161, [38, 32], none) :: (some 162, [39], some (39, true)) :: (some 163, [40, 39, 39], some (39, true)) :: (some 164, [39, 41], none) :: (some 2, [42, 41, 0, 1, 2, 3, 4, 5, 6, 7, 8, 9, 10, 11, 12, 13, 14, 15, 16, 17, 18, 19, 20, 21, 22, 23, 24, 25, 26, 27, 28, 29, 30, 31, 32, 33, 34, 35, 36, 37, 38, 39, 40, 41, 42], none) :: []), (0 :: 1 :: 3 :: 7 :: 3 :: 19 :: 51 :: 115 :: 243 :: 499 :: 1023 :: 2047 :: 4095 :: 8191 :: 16383 :: 32767 :: 65535 :: 131071 :: 262143 :: 524287 :: 1048575 :: 2097151 :: 4194303 :: 8388607 :: 16777215 :: 33554431 :: 67108863 :: 134217727 :: 268435455 :: 536870911 :: 1073741823 :: 2147483647 :: 4294967295 :: 8589934591 :: 17179869183 :: 34359738367 :: 68719476735 :: 137438953471 :: 274877906943 :: 549755813887 :: 1099511627775 :: 2199023255551 :: 4398046511103 :: 8796093022207 :: []), (true :: true :: true :: true :: true :: true :: true :: true :: true :: true :: true :: true :: true :: true :: true :: true :: true :: true :: true :: true :: true :: true :: true :: true :: true :: true :: true :: true :: true :: true :: true :: true :: true :: true :: true :: true :: true :: true :: true :: true :: true :: true :: true :: true :: []), [], 0⟩ 44 165 ((0, 122) :: (1, 123) :: (2, 124) :: (3, 125) :: (4, 126) :: (5, 127) :: (6, 128) :: (7, 129) :: (8, 130) :: (9, 131) :: (10, 132) :: (11, 133) :: (12, 134) :: (13, 135) :: (14, 136) :: (15, 137) :: (16, 138) :: (17, 139) :: (18, 140) :: (19, 141) :: (20, 142) :: (21, 143) :: (22, 144) :: (23, 145) :: (24, 146) :: (25, 147) :: (26, 148) :: (27, 149) :: (28, 150) :: (29, 151) :: (30, 152) :: (31, 153) :: (32, 154) :: (33, 155) :: (34, 156) :: (35, 157) :: (36, 158) :: (37, 159) :: (38, 160) :: (39, 161) :: (40, 162) :: (41, 163) :: (42, 164) :: (43, 2) :: []) ((0, 122) :: (1, 123) :: (2, 124) :: (3, 125) :: (4, 126) :: (5, 127) :: (6, 128) :: (7, 129) :: (8, 130) :: (9, 131) :: (10, 132) :: (11, 133) :: (12, 134) :: (13, 135) :: (14, 136) :: (15, 137) :: (16, 138) :: (17, 139) :: (18, 140) :: (19, 141) :: (20, 142) :: (21, 143) :: (22, 144) :: (23, 145) :: (24, 146) :: (25, 147) :: (26, 148) :: (27, 149) :: (28, 150) :: (29, 151) :: (30, 152) :: (31, 153) :: (32, 154) :: (33, 155) :: (34, 156) :: (35, 157) :: (36, 158) :: (37, 159) :: (38, 160) :: (39, 161) :: (40, 162) :: (41, 163) :: (42, 164) :: (43, 2) :: []) (.det _ :: .det _ :: .det _ :: .det _ :: .det _ :: .det _ :: .det _ :: .det _ :: .det _ :: .det _ :: .det _ :: .det _ :: .det _ :: .det _ :: .det _ :: .det _ :: .det _ :: .det _ :: .det _ :: .det _ :: .det _ :: .det _ :: .det _ :: .det _ :: .det _ :: .det _ :: .det _ :: .det _ :: .det _ :: .det _ :: .det _ :: .det _ :: .det _ :: .det _ :: .det _ :: .det _ :: .det _ :: .det _ :: .det _ :: .det _ :: .det _ :: .det _ :: .det _ :: .det _ :: []) (by kernel_rfl) (by kernel_rfl) (by kernel_rfl) rfl (by kernel_rfl) (by kernel_rfl) rfl (by kernel_rfl) ?hone ?hend
     case hone =>
      intro CS frS VS hCS ha hV
      have qs5 := slot_val (t := 5) ha rfl
      simp only [List.getElem_toArray, List.getElem_cons_succ, List.getElem_cons_zero] at qs5
      have qs6 := slot_val (t := 6) ha rfl
      simp only [List.getElem_toArray, List.getElem_cons_succ, List.getElem_cons_zero] at qs6
      have qs7 := slot_val (t := 7) ha rfl
      simp only [List.getElem_toArray, List.getElem_cons_succ, List.getElem_cons_zero] at qs7
      have qs9 := slot_val (t := 9) ha rfl
      simp only [List.getElem_toArray, List.getElem_cons_succ, List.getElem_cons_zero] at qs9
      have qs10 := slot_val (t := 10) ha rfl
      simp only [List.getElem_toArray, List.getElem_cons_succ, List.getElem_cons_zero] at qs10
      have qs12 := slot_val (t := 12) ha rfl
      simp only [List.getElem_toArray, List.getElem_cons_succ, List.getElem_cons_zero] at qs12
      have HCS := Lib.hid hCS
      have HVS := Lib.hid hV
      clear ha hCS hV
      refine sure_det (js := []) (ts := [7]) (gd := none) (place_at HVS.out (k := 0) rfl) (by rw [HCS.out]; kernel_rfl) ?_ ?_
      ·intro wx hx ρ hρ hs hf; have hρc := hρ.const; have hρf := hρ.func
       obtain ⟨fx7, -⟩ := hf; rw [qs7] at fx7
       clear hs
       clear HCS HVS qs5 qs6 qs7 qs9 qs10 qs12
       refine run_plain ?_
       refine op_move rfl fx7 ?_
       exact detK.mk
      refine sure_det (js := [(0, 122)]) (ts := []) (gd := none) (place_at HVS.out (k := 1) rfl) (by rw [HCS.out]; kernel_rfl) ?_ ?_
      ·intro wx hx ρ hρ hs hf; have hρc := hρ.const; have hρf := hρ.func; obtain ⟨sn0, -⟩ := hs; rw [place_at HVS.out (k := 0) rfl] at sn0; replace sn0 : ρ (.tmp 122) = _ := sn0
       clear hf
       clear HCS HVS qs5 qs6 qs7 qs9 qs10 qs12
       refine run_plain ?_
       refine op_move rfl sn0 ?_
       exact detK.mk
      refine sure_det (js := [(1, 123)]) (ts := [10]) (gd := (some (123, true))) (place_at HVS.out (k := 2) rfl) (by rw [HCS.out]; kernel_rfl) ?_ ?_
      ·intro wx hx ρ hρ hs hf; have hρc := hρ.const; have hρf := hρ.func; obtain ⟨sn1, -⟩ := hs
       obtain ⟨fx10, -⟩ := hf; rw [qs10] at fx10; rw [place_at HVS.out (k := 1) rfl] at sn1; replace sn1 : ρ (.tmp 123) = _ := sn1
       clear HCS HVS qs5 qs6 qs7 qs9 qs10 qs12
       first
        | (refine run_passed sn1 ?_; exact detK.mk)
        | (refine run_undef sn1 ?_; exact detK.mk)
        | (refine run_guarded sn1 ?_; unfold runs; go_simp; exact detK.mk)
      refine sure_det (js := [(2, 124), (1, 123)]) (ts := []) (gd := (some (123, true))) (place_at HVS.out (k := 3) rfl) (by rw [HCS.out]; kernel_rfl) ?_ ?_
      ·intro wx hx ρ hρ hs hf; have hρc := hρ.const; have hρf := hρ.func; obtain ⟨sn2, sn1, -⟩ := hs; rw [place_at HVS.out (k := 2) rfl] at sn2; replace sn2 : ρ (.tmp 124) = _ := sn2; rw [place_at HVS.out (k := 1) rfl] at sn1; replace sn1 : ρ (.tmp 123) = _ := sn1
       clear hf
       clear HCS HVS qs5 qs6 qs7 qs9 qs10 qs12
       first
        | (refine run_passed sn1 ?_; exact detK.mk)
        | (refine run_undef sn1 ?_; exact detK.mk)
        | (refine run_guarded sn1 ?_; obtain ⟨k0, k1, k2, k3, k4, k5, k6, k7, k8, k9⟩ := hX wx hx.drawn; unfold runs; go_simp; exact detK.mk)
      refine sure_det (js := [(1, 123)]) (ts := [6]) (gd := (some (123, true))) (place_at HVS.out (k := 4) rfl) (by rw [HCS.out]; kernel_rfl) ?_ ?_
      ·intro wx hx ρ hρ hs hf; have hρc := hρ.const; have hρf := hρ.func; obtain ⟨sn1, -⟩ := hs
       obtain ⟨fx6, -⟩ := hf; rw [qs6] at fx6; rw [place_at HVS.out (k := 1) rfl] at sn1; replace sn1 : ρ (.tmp 123) = _ := sn1
       clear HCS HVS qs5 qs6 qs7 qs9 qs10 qs12
       first
        | (refine run_passed sn1 ?_; exact detK.mk)
        | (refine run_undef sn1 ?_; exact detK.mk)
        | (refine run_guarded sn1 ?_; refine op_move rfl fx6 ?_; exact detK.mk)
      refine sure_det (js := [(4, 126), (1, 123)]) (ts := []) (gd := (some (123, true))) (place_at HVS.out (k := 5) rfl) (by rw [HCS.out]; kernel_rfl) ?_ ?_
      ·intro wx hx ρ hρ hs hf; have hρc := hρ.const; have hρf := hρ.func; obtain ⟨sn4, sn1, -⟩ := hs; rw [place_at HVS.out (k := 4) rfl] at sn4; replace sn4 : ρ (.tmp 126) = _ := sn4; rw [place_at HVS.out (k := 1) rfl] at sn1; replace sn1 : ρ (.tmp 123) = _ := sn1
       clear hf
       clear HCS HVS qs5 qs6 qs7 qs9 qs10 qs12
       first
        | (refine run_passed sn1 ?_; exact detK.mk)
        | (refine run_undef sn1 ?_; exact detK.mk)
        | (refine run_guarded sn1 ?_; refine op_move rfl sn4 ?_; exact detK.mk)
      refine sure_det (js := [(5, 127)]) (ts := [5]) (gd := (some (127, true))) (place_at HVS.out (k := 6) rfl) (by rw [HCS.out]; kernel_rfl) ?_ ?_
      ·intro wx hx ρ hρ hs hf; have hρc := hρ.const; have hρf := hρ.func; obtain ⟨sn5, -⟩ := hs
       obtain ⟨fx5, -⟩ := hf; rw [qs5] at fx5; rw [place_at HVS.out (k := 5) rfl] at sn5; replace sn5 : ρ (.tmp 127) = _ := sn5
       clear HCS HVS qs5 qs6 qs7 qs9 qs10 qs12
       first
        | (refine run_passed sn5 ?_; exact detK.mk)
        | (refine run_undef sn5 ?_; exact detK.mk)
        | (refine run_guarded sn5 ?_; unfold runs; go_simp; exact detK.mk)
      refine sure_det (js := [(6, 128), (5, 127)]) (ts := []) (gd := (some (127, true))) (place_at HVS.out (k := 7) rfl) (by rw [HCS.out]; kernel_rfl) ?_ ?_
      ·intro wx hx ρ hρ hs hf; have hρc := hρ.const; have hρf := hρ.func; obtain ⟨sn6, sn5, -⟩ := hs; rw [place_at HVS.out (k := 6) rfl] at sn6; replace sn6 : ρ (.tmp 128) = _ := sn6; rw [place_at HVS.out (k := 5) rfl] at sn5; replace sn5 : ρ (.tmp 127) = _ := sn5
       clear hf
       clear HCS HVS qs5 qs6 qs7 qs9 qs10 qs12
       first
        | (refine run_passed sn5 ?_; exact detK.mk)
        | (refine run_undef sn5 ?_; exact detK.mk)
        | (refine run_guarded sn5 ?_; obtain ⟨k0, k1, k2, k3, k4, k5, k6, k7, k8, k9⟩ := hX wx hx.drawn; unfold runs; go_simp; exact detK.mk)
      refine sure_det (js := [(7, 129), (5, 127)]) (ts := []) (gd := (some (127, true))) (place_at HVS.out (k := 8) rfl) (by rw [HCS.out]; kernel_rfl) ?_ ?_
      ·intro wx hx ρ hρ hs hf; have hρc := hρ.const; have hρf := hρ.func; obtain ⟨sn7, sn5, -⟩ := hs; rw [place_at HVS.out (k := 7) rfl] at sn7; replace sn7 : ρ (.tmp 129) = _ := sn7; rw [place_at HVS.out (k := 5) rfl] at sn5; replace sn5 : ρ (.tmp 127) = _ := sn5
       clear hf
       clear HCS HVS qs5 qs6 qs7 qs9 qs10 qs12
       first
        | (refine run_passed sn5 ?_; exact detK.mk)
        | (refine run_undef sn5 ?_; exact detK.mk)
        | (refine run_guarded sn5 ?_; refine op_call rfl hρ Try.call36 (map_one sn7) ?_; (first | ((with_reducible refine Calls.mono (adisk_any _ _) ?_); rintro e w' ⟨rfl, rfl⟩; refine ⟨_, rfl, ?_⟩; rw [hdk]; exact detK.mk) | ((with_reducible refine Calls.mono (accright_K (hV1.ext (hx2.trans hx.drawn))) ?_); rintro e w' ⟨rfl, hx5⟩; refine ⟨_, rfl, ?_⟩; rw [hXr1]; exact detK.ext hx5)))
      refine sure_det (js := [(5, 127), (8, 130), (1, 123)]) (ts := []) (gd := (some (123, true))) (place_at HVS.out (k := 9) rfl) (by rw [HCS.out]; kernel_rfl) ?_ ?_
      ·intro wx hx ρ hρ hs hf; have hρc := hρ.const; have hρf := hρ.func; obtain ⟨sn5, sn8, sn1, -⟩ := hs; rw [place_at HVS.out (k := 5) rfl] at sn5; replace sn5 : ρ (.tmp 127) = _ := sn5; rw [place_at HVS.out (k := 8) rfl] at sn8; replace sn8 : ρ (.tmp 130) = _ := sn8; rw [place_at HVS.out (k := 1) rfl] at sn1; replace sn1 : ρ (.tmp 123) = _ := sn1
       clear hf
       clear HCS HVS qs5 qs6 qs7 qs9 qs10 qs12
       first
        | (refine run_passed sn1 ?_; exact detK.mk)
        | (refine run_undef sn1 ?_; exact detK.mk)
        | (refine run_guarded sn1 ?_; (first | refine op_pick_t rfl sn5 sn8 ?_ | refine op_pick_f rfl sn5 (hρ.const _) ?_); exact detK.mk)
      refine sure_det (js := [(3, 125), (9, 131), (1, 123)]) (ts := []) (gd := (some (123, true))) (place_at HVS.out (k := 10) rfl) (by rw [HCS.out]; kernel_rfl) ?_ ?_
      ·intro wx hx ρ hρ hs hf; have hρc := hρ.const; have hρf := hρ.func; obtain ⟨sn3, sn9, sn1, -⟩ := hs; rw [place_at HVS.out (k := 3) rfl] at sn3; replace sn3 : ρ (.tmp 125) = _ := sn3; rw [place_at HVS.out (k := 9) rfl] at sn9; replace sn9 : ρ (.tmp 131) = _ := sn9; rw [place_at HVS.out (k := 1) rfl] at sn1; replace sn1 : ρ (.tmp 123) = _ := sn1
       clear hf
       clear HCS HVS qs5 qs6 qs7 qs9 qs10 qs12
       first
        | (refine run_passed sn1 ?_; exact detK.mk)
        | (refine run_undef sn1 ?_; exact detK.mk)
        | (refine run_guarded sn1 ?_; unfold runs; go_simp; exact detK.mk)
      refine sure_det (js := [(1, 123), (10, 132)]) (ts := []) (gd := none) (place_at HVS.out (k := 11) rfl) (by rw [HCS.out]; kernel_rfl) ?_ ?_
      ·intro wx hx ρ hρ hs hf; have hρc := hρ.const; have hρf := hρ.func; obtain ⟨sn1, sn10, -⟩ := hs; rw [place_at HVS.out (k := 1) rfl] at sn1; replace sn1 : ρ (.tmp 123) = _ := sn1; rw [place_at HVS.out (k := 10) rfl] at sn10; replace sn10 : ρ (.tmp 132) = _ := sn10
       clear hf
       clear HCS HVS qs5 qs6 qs7 qs9 qs10 qs12
       refine run_plain ?_
       first | refine op_pick_t rfl sn1 sn10 ?_ | refine op_pick_f rfl sn1 (hρ.const _) ?_
       exact detK.mk
      refine sure_det (js := [(11, 133)]) (ts := []) (gd := none) (place_at HVS.out (k := 12) rfl) (by rw [HCS.out]; kernel_rfl) ?_ ?_
      ·intro wx hx ρ hρ hs hf; have hρc := hρ.const; have hρf := hρ.func; obtain ⟨sn11, -⟩ := hs; rw [place_at HVS.out (k := 11) rfl] at sn11; replace sn11 : ρ (.tmp 133) = _ := sn11
       clear hf
       clear HCS HVS qs5 qs6 qs7 qs9 qs10 qs12
       refine run_plain ?_
       refine op_move rfl sn11 ?_
       exact detK.mk
      refine sure_det (js := [(12, 134)]) (ts := [5]) (gd := (some (134, true))) (place_at HVS.out (k := 13) rfl) (by rw [HCS.out]; kernel_rfl) ?_ ?_
      ·intro wx hx ρ hρ hs hf; have hρc := hρ.const; have hρf := hρ.func; obtain ⟨sn12, -⟩ := hs
       obtain ⟨fx5, -⟩ := hf; rw [qs5] at fx5; rw [place_at HVS.out (k := 12) rfl] at sn12; replace sn12 : ρ (.tmp 134) = _ := sn12
       clear HCS HVS qs5 qs6 qs7 qs9 qs10 qs12
       first
        | (refine run_passed sn12 ?_; exact detK.mk)
        | (refine run_undef sn12 ?_; exact detK.mk)
        | (refine run_guarded sn12 ?_; unfold runs; go_simp; exact detK.mk)
      refine sure_det (js := [(13, 135), (12, 134)]) (ts := []) (gd := (some (134, true))) (place_at HVS.out (k := 14) rfl) (by rw [HCS.out]; kernel_rfl) ?_ ?_
      ·intro wx hx ρ hρ hs hf; have hρc := hρ.const; have hρf := hρ.func; obtain ⟨sn13, sn12, -⟩ := hs; rw [place_at HVS.out (k := 13) rfl] at sn13; replace sn13 : ρ (.tmp 135) = _ := sn13; rw [place_at HVS.out (k := 12) rfl] at sn12; replace sn12 : ρ (.tmp 134) = _ := sn12
       clear hf
       clear HCS HVS qs5 qs6 qs7 qs9 qs10 qs12
       first
        | (refine run_passed sn12 ?_; exact detK.mk)
        | (refine run_undef sn12 ?_; exact detK.mk)
        | (refine run_guarded sn12 ?_; obtain ⟨k0, k1, k2, k3, k4, k5, k6, k7, k8, k9⟩ := hX wx hx.drawn; unfold runs; go_simp; exact detK.mk)
      refine sure_det (js := [(14, 136), (12, 134)]) (ts := []) (gd := (some (134, true))) (place_at HVS.out (k := 15) rfl) (by rw [HCS.out]; kernel_rfl) ?_ ?_
      ·intro wx hx ρ hρ hs hf; have hρc := hρ.const; have hρf := hρ.func; obtain ⟨sn14, sn12, -⟩ := hs; rw [place_at HVS.out (k := 14) rfl] at sn14; replace sn14 : ρ (.tmp 136) = _ := sn14; rw [place_at HVS.out (k := 12) rfl] at sn12; replace sn12 : ρ (.tmp 134) = _ := sn12
       clear hf
       clear HCS HVS qs5 qs6 qs7 qs9 qs10 qs12
       first
        | (refine run_passed sn12 ?_; exact detK.mk)
        | (refine run_undef sn12 ?_; exact detK.mk)
        | (refine run_guarded sn12 ?_; refine op_call rfl hρ Try.call36 (map_one sn14) ?_; (first | ((with_reducible refine Calls.mono (adisk_any _ _) ?_); rintro e w' ⟨rfl, rfl⟩; refine ⟨_, rfl, ?_⟩; rw [hdk]; exact detK.mk) | ((with_reducible refine Calls.mono (accright_K (hV1.ext (hx2.trans hx.drawn))) ?_); rintro e w' ⟨rfl, hx5⟩; refine ⟨_, rfl, ?_⟩; rw [hXr1]; exact detK.ext hx5)))
      refine sure_det (js := [(15, 137), (12, 134)]) (ts := []) (gd := (some (134, true))) (place_at HVS.out (k := 16) rfl) (by rw [HCS.out]; kernel_rfl) ?_ ?_
      ·intro wx hx ρ hρ hs hf; have hρc := hρ.const; have hρf := hρ.func; obtain ⟨sn15, sn12, -⟩ := hs; rw [place_at HVS.out (k := 15) rfl] at sn15; replace sn15 : ρ (.tmp 137) = _ := sn15; rw [place_at HVS.out (k := 12) rfl] at sn12; replace sn12 : ρ (.tmp 134) = _ := sn12
       clear hf
       clear HCS HVS qs5 qs6 qs7 qs9 qs10 qs12
       first
        | (refine run_passed sn12 ?_; exact detK.mk)
        | (refine run_undef sn12 ?_; exact detK.mk)
        | (refine run_guarded sn12 ?_; refine op_move rfl sn15 ?_; exact detK.mk)
      refine sure_det (js := [(16, 138)]) (ts := [12]) (gd := (some (138, false))) (place_at HVS.out (k := 17) rfl) (by rw [HCS.out]; kernel_rfl) ?_ ?_
      ·intro wx hx ρ hρ hs hf; have hρc := hρ.const; have hρf := hρ.func; obtain ⟨sn16, -⟩ := hs
       obtain ⟨fx12, -⟩ := hf; rw [qs12] at fx12; rw [place_at HVS.out (k := 16) rfl] at sn16; replace sn16 : ρ (.tmp 138) = _ := sn16
       clear HCS HVS qs5 qs6 qs7 qs9 qs10 qs12
       first
        | (refine run_passed sn16 ?_; exact detK.mk)
        | (refine run_undef sn16 ?_; exact detK.mk)
        | (refine run_guarded sn16 ?_; refine op_move rfl fx12 ?_; exact detK.mk)
      refine sure_det (js := [(16, 138), (17, 139), (12, 134)]) (ts := []) (gd := (some (134, true))) (place_at HVS.out (k := 18) rfl) (by rw [HCS.out]; kernel_rfl) ?_ ?_
      ·intro wx hx ρ hρ hs hf; have hρc := hρ.const; have hρf := hρ.func; obtain ⟨sn16, sn17, sn12, -⟩ := hs; rw [place_at HVS.out (k := 16) rfl] at sn16; replace sn16 : ρ (.tmp 138) = _ := sn16; rw [place_at HVS.out (k := 17) rfl] at sn17; replace sn17 : ρ (.tmp 139) = _ := sn17; rw [place_at HVS.out (k := 12) rfl] at sn12; replace sn12 : ρ (.tmp 134) = _ := sn12
       clear hf
       clear HCS HVS qs5 qs6 qs7 qs9 qs10 qs12
       first
        | (refine run_passed sn12 ?_; exact detK.mk)
        | (refine run_undef sn12 ?_; exact detK.mk)
        | (refine run_guarded sn12 ?_; (first | refine op_pick_t rfl sn16 (hρ.const _) ?_ | refine op_pick_f rfl sn16 sn17 ?_); exact detK.mk)
      refine sure_det (js := [(12, 134), (18, 140)]) (ts := []) (gd := none) (place_at HVS.out (k := 19) rfl) (by rw [HCS.out]; kernel_rfl) ?_ ?_
      ·intro wx hx ρ hρ hs hf; have hρc := hρ.const; have hρf := hρ.func; obtain ⟨sn12, sn18, -⟩ := hs; rw [place_at HVS.out (k := 12) rfl] at sn12; replace sn12 : ρ (.tmp 134) = _ := sn12; rw [place_at HVS.out (k := 18) rfl] at sn18; replace sn18 : ρ (.tmp 140) = _ := sn18
       clear hf
       clear HCS HVS qs5 qs6 qs7 qs9 qs10 qs12
       refine run_plain ?_
       first | refine op_pick_t rfl sn12 sn18 ?_ | refine op_pick_f rfl sn12 (hρ.const _) ?_
       exact detK.mk
      refine sure_det (js := [(19, 141)]) (ts := []) (gd := none) (place_at HVS.out (k := 20) rfl) (by rw [HCS.out]; kernel_rfl) ?_ ?_
      ·intro wx hx ρ hρ hs hf; have hρc := hρ.const; have hρf := hρ.func; obtain ⟨sn19, -⟩ := hs; rw [place_at HVS.out (k := 19) rfl] at sn19; replace sn19 : ρ (.tmp 141) = _ := sn19
       clear hf
       clear HCS HVS qs5 qs6 qs7 qs9 qs10 qs12
       refine run_plain ?_
       refine op_move rfl sn19 ?_
       exact detK.mk
      refine sure_det (js := [(20, 142)]) (ts := [10]) (gd := (some (142, true))) (place_at HVS.out (k := 21) rfl) (by rw [HCS.out]; kernel_rfl) ?_ ?_
      ·intro wx hx ρ hρ hs hf; have hρc := hρ.const; have hρf := hρ.func; obtain ⟨sn20, -⟩ := hs
       obtain ⟨fx10, -⟩ := hf; rw [qs10] at fx10; rw [place_at HVS.out (k := 20) rfl] at sn20; replace sn20 : ρ (.tmp 142) = _ := sn20
       clear HCS HVS qs5 qs6 qs7 qs9 qs10 qs12
       first
        | (refine run_passed sn20 ?_; exact detK.mk)
        | (refine run_undef sn20 ?_; exact detK.mk)
        | (refine run_guarded sn20 ?_; unfold runs; go_simp; exact detK.mk)
      refine sure_det (js := [(21, 143), (20, 142)]) (ts := []) (gd := (some (142, true))) (place_at HVS.out (k := 22) rfl) (by rw [HCS.out]; kernel_rfl) ?_ ?_
      ·intro wx hx ρ hρ hs hf; have hρc := hρ.const; have hρf := hρ.func; obtain ⟨sn21, sn20, -⟩ := hs; rw [place_at HVS.out (k := 21) rfl] at sn21; replace sn21 : ρ (.tmp 143) = _ := sn21; rw [place_at HVS.out (k := 20) rfl] at sn20; replace sn20 : ρ (.tmp 142) = _ := sn20
       clear hf
       clear HCS HVS qs5 qs6 qs7 qs9 qs10 qs12
       first
        | (refine run_passed sn20 ?_; exact detK.mk)
        | (refine run_undef sn20 ?_; exact detK.mk)
        | (refine run_guarded sn20 ?_; obtain ⟨k0, k1, k2, k3, k4, k5, k6, k7, k8, k9⟩ := hX wx hx.drawn; unfold runs; go_simp; exact detK.mk)
      refine sure_det (js := [(22, 144), (20, 142)]) (ts := []) (gd := (some (142, true))) (place_at HVS.out (k := 23) rfl) (by rw [HCS.out]; kernel_rfl) ?_ ?_
      ·intro wx hx ρ hρ hs hf; have hρc := hρ.const; have hρf := hρ.func; obtain ⟨sn22, sn20, -⟩ := hs; rw [place_at HVS.out (k := 22) rfl] at sn22; replace sn22 : ρ (.tmp 144) = _ := sn22; rw [place_at HVS.out (k := 20) rfl] at sn20; replace sn20 : ρ (.tmp 142) = _ := sn20
       clear hf
       clear HCS HVS qs5 qs6 qs7 qs9 qs10 qs12
       first
        | (refine run_passed sn20 ?_; exact detK.mk)
        | (refine run_undef sn20 ?_; exact detK.mk)
        | (refine run_guarded sn20 ?_; unfold runs; go_simp; exact detK.mk)
      refine sure_det (js := [(23, 145), (20, 142)]) (ts := []) (gd := (some (142, true))) (place_at HVS.out (k := 24) rfl) (by rw [HCS.out]; kernel_rfl) ?_ ?_
      ·intro wx hx ρ hρ hs hf; have hρc := hρ.const; have hρf := hρ.func; obtain ⟨sn23, sn20, -⟩ := hs; rw [place_at HVS.out (k := 23) rfl] at sn23; replace sn23 : ρ (.tmp 145) = _ := sn23; rw [place_at HVS.out (k := 20) rfl] at sn20; replace sn20 : ρ (.tmp 142) = _ := sn20
       clear hf
       clear HCS HVS qs5 qs6 qs7 qs9 qs10 qs12
       first
        | (refine run_passed sn20 ?_; exact detK.mk)
        | (refine run_undef sn20 ?_; exact detK.mk)
        | (refine run_guarded sn20 ?_; refine op_move rfl sn23 ?_; exact detK.mk)
      refine sure_det (js := [(24, 146)]) (ts := [12]) (gd := (some (146, false))) (place_at HVS.out (k := 25) rfl) (by rw [HCS.out]; kernel_rfl) ?_ ?_
      ·intro wx hx ρ hρ hs hf; have hρc := hρ.const; have hρf := hρ.func; obtain ⟨sn24, -⟩ := hs
       obtain ⟨fx12, -⟩ := hf; rw [qs12] at fx12; rw [place_at HVS.out (k := 24) rfl] at sn24; replace sn24 : ρ (.tmp 146) = _ := sn24
       clear HCS HVS qs5 qs6 qs7 qs9 qs10 qs12
       first
        | (refine run_passed sn24 ?_; exact detK.mk)
        | (refine run_undef sn24 ?_; exact detK.mk)
        | (refine run_guarded sn24 ?_; refine op_move rfl fx12 ?_; exact detK.mk)
      refine sure_det (js := [(25, 147), (24, 146)]) (ts := []) (gd := (some (146, false))) (place_at HVS.out (k := 26) rfl) (by rw [HCS.out]; kernel_rfl) ?_ ?_
      ·intro wx hx ρ hρ hs hf; have hρc := hρ.const; have hρf := hρ.func; obtain ⟨sn25, sn24, -⟩ := hs; rw [place_at HVS.out (k := 25) rfl] at sn25; replace sn25 : ρ (.tmp 147) = _ := sn25; rw [place_at HVS.out (k := 24) rfl] at sn24; replace sn24 : ρ (.tmp 146) = _ := sn24
       clear hf
       clear HCS HVS qs5 qs6 qs7 qs9 qs10 qs12
       first
        | (refine run_passed sn24 ?_; exact detK.mk)
        | (refine run_undef sn24 ?_; exact detK.mk)
        | (refine run_guarded sn24 ?_; refine op_move rfl sn25 ?_; exact detK.mk)
      refine sure_det (js := [(26, 148)]) (ts := [10]) (gd := (some (148, true))) (place_at HVS.out (k := 27) rfl) (by rw [HCS.out]; kernel_rfl) ?_ ?_
      ·intro wx hx ρ hρ hs hf; have hρc := hρ.const; have hρf := hρ.func; obtain ⟨sn26, -⟩ := hs
       obtain ⟨fx10, -⟩ := hf; rw [qs10] at fx10; rw [place_at HVS.out (k := 26) rfl] at sn26; replace sn26 : ρ (.tmp 148) = _ := sn26
       clear HCS HVS qs5 qs6 qs7 qs9 qs10 qs12
       first
        | (refine run_passed sn26 ?_; exact detK.mk)
        | (refine run_undef sn26 ?_; exact detK.mk)
        | (refine run_guarded sn26 ?_; unfold runs; go_simp; exact detK.mk)
      refine sure_det (js := [(27, 149), (26, 148)]) (ts := []) (gd := (some (148, true))) (place_at HVS.out (k := 28) rfl) (by rw [HCS.out]; kernel_rfl) ?_ ?_
      ·intro wx hx ρ hρ hs hf; have hρc := hρ.const; have hρf := hρ.func; obtain ⟨sn27, sn26, -⟩ := hs; rw [place_at HVS.out (k := 27) rfl] at sn27; replace sn27 : ρ (.tmp 149) = _ := sn27; rw [place_at HVS.out (k := 26) rfl] at sn26; replace sn26 : ρ (.tmp 148) = _ := sn26
       clear hf
       clear HCS HVS qs5 qs6 qs7 qs9 qs10 qs12
       first
        | (refine run_passed sn26 ?_; exact detK.mk)
        | (refine run_undef sn26 ?_; exact detK.mk)
        | (refine run_guarded sn26 ?_; obtain ⟨k0, k1, k2, k3, k4, k5, k6, k7, k8, k9⟩ := hX wx hx.drawn; unfold runs; go_simp; exact detK.mk)
      refine sure_det (js := [(28, 150), (26, 148)]) (ts := []) (gd := (some (148, true))) (place_at HVS.out (k := 29) rfl) (by rw [HCS.out]; kernel_rfl) ?_ ?_
      ·intro wx hx ρ hρ hs hf; have hρc := hρ.const; have hρf := hρ.func; obtain ⟨sn28, sn26, -⟩ := hs; rw [place_at HVS.out (k := 28) rfl] at sn28; replace sn28 : ρ (.tmp 150) = _ := sn28; rw [place_at HVS.out (k := 26) rfl] at sn26; replace sn26 : ρ (.tmp 148) = _ := sn26
       clear hf
       clear HCS HVS qs5 qs6 qs7 qs9 qs10 qs12
       first
        | (refine run_passed sn26 ?_; exact detK.mk)
        | (refine run_undef sn26 ?_; exact detK.mk)
        | (refine run_guarded sn26 ?_; unfold runs; go_simp; exact detK.mk)
      refine sure_det (js := [(29, 151), (26, 148)]) (ts := []) (gd := (some (148, true))) (place_at HVS.out (k := 30) rfl) (by rw [HCS.out]; kernel_rfl) ?_ ?_
      ·intro wx hx ρ hρ hs hf; have hρc := hρ.const; have hρf := hρ.func; obtain ⟨sn29, sn26, -⟩ := hs; rw [place_at HVS.out (k := 29) rfl] at sn29; replace sn29 : ρ (.tmp 151) = _ := sn29; rw [place_at HVS.out (k := 26) rfl] at sn26; replace sn26 : ρ (.tmp 148) = _ := sn26
       clear hf
       clear HCS HVS qs5 qs6 qs7 qs9 qs10 qs12
       first
        | (refine run_passed sn26 ?_; exact detK.mk)
        | (refine run_undef sn26 ?_; exact detK.mk)
        | (refine run_guarded sn26 ?_; unfold runs; go_simp; exact detK.mk)
      refine sure_det (js := [(26, 148), (30, 152), (24, 146)]) (ts := []) (gd := (some (146, false))) (place_at HVS.out (k := 31) rfl) (by rw [HCS.out]; kernel_rfl) ?_ ?_
      ·intro wx hx ρ hρ hs hf; have hρc := hρ.const; have hρf := hρ.func; obtain ⟨sn26, sn30, sn24, -⟩ := hs; rw [place_at HVS.out (k := 26) rfl] at sn26; replace sn26 : ρ (.tmp 148) = _ := sn26; rw [place_at HVS.out (k := 30) rfl] at sn30; replace sn30 : ρ (.tmp 152) = _ := sn30; rw [place_at HVS.out (k := 24) rfl] at sn24; replace sn24 : ρ (.tmp 146) = _ := sn24
       clear hf
       clear HCS HVS qs5 qs6 qs7 qs9 qs10 qs12
       first
        | (refine run_passed sn24 ?_; exact detK.mk)
        | (refine run_undef sn24 ?_; exact detK.mk)
        | (refine run_guarded sn24 ?_; (first | refine op_pick_t rfl sn26 sn30 ?_ | refine op_pick_f rfl sn26 (hρ.const _) ?_); exact detK.mk)
      refine sure_det (js := [(31, 153), (24, 146)]) (ts := []) (gd := (some (146, false))) (place_at HVS.out (k := 32) rfl) (by rw [HCS.out]; kernel_rfl) ?_ ?_
      ·intro wx hx ρ hρ hs hf; have hρc := hρ.const; have hρf := hρ.func; obtain ⟨sn31, sn24, -⟩ := hs; rw [place_at HVS.out (k := 31) rfl] at sn31; replace sn31 : ρ (.tmp 153) = _ := sn31; rw [place_at HVS.out (k := 24) rfl] at sn24; replace sn24 : ρ (.tmp 146) = _ := sn24
       clear hf
       clear HCS HVS qs5 qs6 qs7 qs9 qs10 qs12
       first
        | (refine run_passed sn24 ?_; exact detK.mk)
        | (refine run_undef sn24 ?_; exact detK.mk)
        | (refine run_guarded sn24 ?_; refine op_move rfl sn31 ?_; exact detK.mk)
      refine sure_det (js := [(32, 154)]) (ts := [10]) (gd := (some (154, true))) (place_at HVS.out (k := 33) rfl) (by rw [HCS.out]; kernel_rfl) ?_ ?_
      ·intro wx hx ρ hρ hs hf; have hρc := hρ.const; have hρf := hρ.func; obtain ⟨sn32, -⟩ := hs
       obtain ⟨fx10, -⟩ := hf; rw [qs10] at fx10; rw [place_at HVS.out (k := 32) rfl] at sn32; replace sn32 : ρ (.tmp 154) = _ := sn32
       clear HCS HVS qs5 qs6 qs7 qs9 qs10 qs12
       first
        | (refine run_passed sn32 ?_; exact detK.mk)
        | (refine run_undef sn32 ?_; exact detK.mk)
        | (refine run_guarded sn32 ?_; unfold runs; go_simp; exact detK.mk)
      refine sure_det (js := [(33, 155), (32, 154)]) (ts := []) (gd := (some (154, true))) (place_at HVS.out (k := 34) rfl) (by rw [HCS.out]; kernel_rfl) ?_ ?_
      ·intro wx hx ρ hρ hs hf; have hρc := hρ.const; have hρf := hρ.func; obtain ⟨sn33, sn32, -⟩ := hs; rw [place_at HVS.out (k := 33) rfl] at sn33; replace sn33 : ρ (.tmp 155) = _ := sn33; rw [place_at HVS.out (k := 32) rfl] at sn32; replace sn32 : ρ (.tmp 154) = _ := sn32
       clear hf
       clear HCS HVS qs5 qs6 qs7 qs9 qs10 qs12
       first
        | (refine run_passed sn32 ?_; exact detK.mk)
        | (refine run_undef sn32 ?_; exact detK.mk)
        | (refine run_guarded sn32 ?_; obtain ⟨k0, k1, k2, k3, k4, k5, k6, k7, k8, k9⟩ := hX wx hx.drawn; unfold runs; go_simp; exact detK.mk)
      refine sure_det (js := [(34, 156), (32, 154)]) (ts := []) (gd := (some (154, true))) (place_at HVS.out (k := 35) rfl) (by rw [HCS.out]; kernel_rfl) ?_ ?_
      ·intro wx hx ρ hρ hs hf; have hρc := hρ.const; have hρf := hρ.func; obtain ⟨sn34, sn32, -⟩ := hs; rw [place_at HVS.out (k := 34) rfl] at sn34; replace sn34 : ρ (.tmp 156) = _ := sn34; rw [place_at HVS.out (k := 32) rfl] at sn32; replace sn32 : ρ (.tmp 154) = _ := sn32
       clear hf
       clear HCS HVS qs5 qs6 qs7 qs9 qs10 qs12
       first
        | (refine run_passed sn32 ?_; exact detK.mk)
        | (refine run_undef sn32 ?_; exact detK.mk)
        | (refine run_guarded sn32 ?_; unfold runs; go_simp; exact detK.mk)
      refine sure_det (js := [(32, 154), (35, 157), (24, 146)]) (ts := []) (gd := (some (146, false))) (place_at HVS.out (k := 36) rfl) (by rw [HCS.out]; kernel_rfl) ?_ ?_
      ·intro wx hx ρ hρ hs hf; have hρc := hρ.const; have hρf := hρ.func; obtain ⟨sn32, sn35, sn24, -⟩ := hs; rw [place_at HVS.out (k := 32) rfl] at sn32; replace sn32 : ρ (.tmp 154) = _ := sn32; rw [place_at HVS.out (k := 35) rfl] at sn35; replace sn35 : ρ (.tmp 157) = _ := sn35; rw [place_at HVS.out (k := 24) rfl] at sn24; replace sn24 : ρ (.tmp 146) = _ := sn24
       clear hf
       clear HCS HVS qs5 qs6 qs7 qs9 qs10 qs12
       first
        | (refine run_passed sn24 ?_; exact detK.mk)
        | (refine run_undef sn24 ?_; exact detK.mk)
        | (refine run_guarded sn24 ?_; (first | refine op_pick_t rfl sn32 sn35 ?_ | refine op_pick_f rfl sn32 (hρ.const _) ?_); exact detK.mk)
      refine sure_det (js := [(24, 146), (36, 158), (20, 142)]) (ts := []) (gd := (some (142, true))) (place_at HVS.out (k := 37) rfl) (by rw [HCS.out]; kernel_rfl) ?_ ?_
      ·intro wx hx ρ hρ hs hf; have hρc := hρ.const; have hρf := hρ.func; obtain ⟨sn24, sn36, sn20, -⟩ := hs; rw [place_at HVS.out (k := 24) rfl] at sn24; replace sn24 : ρ (.tmp 146) = _ := sn24; rw [place_at HVS.out (k := 36) rfl] at sn36; replace sn36 : ρ (.tmp 158) = _ := sn36; rw [place_at HVS.out (k := 20) rfl] at sn20; replace sn20 : ρ (.tmp 142) = _ := sn20
       clear hf
       clear HCS HVS qs5 qs6 qs7 qs9 qs10 qs12
       first
        | (refine run_passed sn20 ?_; exact detK.mk)
        | (refine run_undef sn20 ?_; exact detK.mk)
        | (refine run_guarded sn20 ?_; (first | refine op_pick_t rfl sn24 (hρ.const _) ?_ | refine op_pick_f rfl sn24 sn36 ?_); exact detK.mk)
      refine sure_det (js := [(20, 142), (37, 159)]) (ts := []) (gd := none) (place_at HVS.out (k := 38) rfl) (by rw [HCS.out]; kernel_rfl) ?_ ?_
      ·intro wx hx ρ hρ hs hf; have hρc := hρ.const; have hρf := hρ.func; obtain ⟨sn20, sn37, -⟩ := hs; rw [place_at HVS.out (k := 20) rfl] at sn20; replace sn20 : ρ (.tmp 142) = _ := sn20; rw [place_at HVS.out (k := 37) rfl] at sn37; replace sn37 : ρ (.tmp 159) = _ := sn37
       clear hf
       clear HCS HVS qs5 qs6 qs7 qs9 qs10 qs12
       refine run_plain ?_
       first | refine op_pick_t rfl sn20 sn37 ?_ | refine op_pick_f rfl sn20 (hρ.const _) ?_
       exact detK.mk
      refine sure_det (js := [(38, 160)]) (ts := []) (gd := none) (place_at HVS.out (k := 39) rfl) (by rw [HCS.out]; kernel_rfl) ?_ ?_
      ·intro wx hx ρ hρ hs hf; have hρc := hρ.const; have hρf := hρ.func; obtain ⟨sn38, -⟩ := hs; rw [place_at HVS.out (k := 38) rfl] at sn38; replace sn38 : ρ (.tmp 160) = _ := sn38
       clear hf
       clear HCS HVS qs5 qs6 qs7 qs9 qs10 qs12
       refine run_plain ?_
       refine op_move rfl sn38 ?_
       exact detK.mk
      refine sure_det (js := [(39, 161)]) (ts := [9]) (gd := (some (161, true))) (place_at HVS.out (k := 40) rfl) (by rw [HCS.out]; kernel_rfl) ?_ ?_
      ·intro wx hx ρ hρ hs hf; have hρc := hρ.const; have hρf := hρ.func; obtain ⟨sn39, -⟩ := hs
       obtain ⟨fx9, -⟩ := hf; rw [qs9] at fx9; rw [place_at HVS.out (k := 39) rfl] at sn39; replace sn39 : ρ (.tmp 161) = _ := sn39
       clear HCS HVS qs5 qs6 qs7 qs9 qs10 qs12
       first
        | (refine run_passed sn39 ?_; exact detK.mk)
        | (refine run_undef sn39 ?_; exact detK.mk)
        | (refine run_guarded sn39 ?_; obtain ⟨k0, k1, k2, k3, k4, k5, k6, k7, k8, k9⟩ := hX wx hx.drawn; unfold runs; go_simp; exact detK.mk)
      refine sure_det (js := [(40, 162), (39, 161)]) (ts := []) (gd := (some (161, true))) (place_at HVS.out (k := 41) rfl) (by rw [HCS.out]; kernel_rfl) ?_ ?_
      ·intro wx hx ρ hρ hs hf; have hρc := hρ.const; have hρf := hρ.func; obtain ⟨sn40, sn39, -⟩ := hs; rw [place_at HVS.out (k := 40) rfl] at sn40; replace sn40 : ρ (.tmp 162) = _ := sn40; rw [place_at HVS.out (k := 39) rfl] at sn39; replace sn39 : ρ (.tmp 161) = _ := sn39
       clear hf
       clear HCS HVS qs5 qs6 qs7 qs9 qs10 qs12
       first
        | (refine run_passed sn39 ?_; exact detK.mk)
        | (refine run_undef sn39 ?_; exact detK.mk)
        | (refine run_guarded sn39 ?_; refine op_call rfl hρ Try.call35 (map_one sn40) ?_; (first | ((with_reducible refine Calls.mono (adisk_any _ _) ?_); rintro e w' ⟨rfl, rfl⟩; refine ⟨_, rfl, ?_⟩; rw [hdk]; exact detK.mk) | ((with_reducible refine Calls.mono (accright_K (hV1.ext (hx2.trans hx.drawn))) ?_); rintro e w' ⟨rfl, hx5⟩; refine ⟨_, rfl, ?_⟩; rw [hXr1]; exact detK.ext hx5)))
      refine sure_det (js := [(39, 161), (41, 163)]) (ts := []) (gd := none) (place_at HVS.out (k := 42) rfl) (by rw [HCS.out]; kernel_rfl) ?_ ?_
      ·intro wx hx ρ hρ hs hf; have hρc := hρ.const; have hρf := hρ.func; obtain ⟨sn39, sn41, -⟩ := hs; rw [place_at HVS.out (k := 39) rfl] at sn39; replace sn39 : ρ (.tmp 161) = _ := sn39; rw [place_at HVS.out (k := 41) rfl] at sn41; replace sn41 : ρ (.tmp 163) = _ := sn41
       clear hf
       clear HCS HVS qs5 qs6 qs7 qs9 qs10 qs12
       refine run_plain ?_
       first | refine op_pick_t rfl sn39 sn41 ?_ | refine op_pick_f rfl sn39 (hρ.const _) ?_
       exact detK.mk
      refine sure_det (js := [(42, 164)]) (ts := []) (gd := none) (place_at HVS.out (k := 43) rfl) (by rw [HCS.out]; kernel_rfl) ?_ ?_
      ·intro wx hx ρ hρ hs hf; have hρc := hρ.const; have hρf := hρ.func; obtain ⟨sn42, -⟩ := hs; rw [place_at HVS.out (k := 42) rfl] at sn42; replace sn42 : ρ (.tmp 164) = _ := sn42
       clear hf
       clear HCS HVS qs5 qs6 qs7 qs9 qs10 qs12
       refine run_plain ?_
       refine op_assign rfl sn42 ?_
       exact detK.mk
      exact trivial
     case hend =>
      intro xs wx hx hg
      have gk0 : xs 0 = _ := goods_get hg (i := 0) (j := 0) (d := 122) rfl
      have gk1 : xs 1 = _ := goods_get hg (i := 1) (j := 1) (d := 123) rfl
      have gk2 : xs 2 = _ := goods_get hg (i := 2) (j := 2) (d := 124) rfl
      have gk3 : xs 3 = _ := goods_get hg (i := 3) (j := 3) (d := 125) rfl
      have gk4 : xs 4 = _ := goods_get hg (i := 4) (j := 4) (d := 126) rfl
      have gk5 : xs 5 = _ := goods_get hg (i := 5) (j := 5) (d := 127) rfl
      have gk6 : xs 6 = _ := goods_get hg (i := 6) (j := 6) (d := 128) rfl
      have gk7 : xs 7 = _ := goods_get hg (i := 7) (j := 7) (d := 129) rfl
      have gk8 : xs 8 = _ := goods_get hg (i := 8) (j := 8) (d := 130) rfl
      have gk9 : xs 9 = _ := goods_get hg (i := 9) (j := 9) (d := 131) rfl
      have gk10 : xs 10 = _ := goods_get hg (i := 10) (j := 10) (d := 132) rfl
      have gk11 : xs 11 = _ := goods_get hg (i := 11) (j := 11) (d := 133) rfl
      have gk12 : xs 12 = _ := goods_get hg (i := 12) (j := 12) (d := 134) rfl
      have gk13 : xs 13 = _ := goods_get hg (i := 13) (j := 13) (d := 135) rfl
      have gk14 : xs 14 = _ := goods_get hg (i := 14) (j := 14) (d := 136) rfl
      have gk15 : xs 15 = _ := goods_get hg (i := 15) (j := 15) (d := 137) rfl
      have gk16 : xs 16 = _ := goods_get hg (i := 16) (j := 16) (d := 138) rfl
      have gk17 : xs 17 = _ := goods_get hg (i := 17) (j := 17) (d := 139) rfl
      have gk18 : xs 18 = _ := goods_get hg (i := 18) (j := 18) (d := 140) rfl
      have gk19 : xs 19 = _ := goods_get hg (i := 19) (j := 19) (d := 141) rfl
      have gk20 : xs 20 = _ := goods_get hg (i := 20) (j := 20) (d := 142) rfl
      have gk21 : xs 21 = _ := goods_get hg (i := 21) (j := 21) (d := 143) rfl
      have gk22 : xs 22 = _ := goods_get hg (i := 22) (j := 22) (d := 144) rfl
      have gk23 : xs 23 = _ := goods_get hg (i := 23) (j := 23) (d := 145) rfl
      have gk24 : xs 24 = _ := goods_get hg (i := 24) (j := 24) (d := 146) rfl
      have gk25 : xs 25 = _ := goods_get hg (i := 25) (j := 25) (d := 147) rfl
      have gk26 : xs 26 = _ := goods_get hg (i := 26) (j := 26) (d := 148) rfl
      have gk27 : xs 27 = _ := goods_get hg (i := 27) (j := 27) (d := 149) rfl
      have gk28 : xs 28 = _ := goods_get hg (i := 28) (j := 28) (d := 150) rfl
      have gk29 : xs 29 = _ := goods_get hg (i := 29) (j := 29) (d := 151) rfl
      have gk30 : xs 30 = _ := goods_get hg (i := 30) (j := 30) (d := 152) rfl
      have gk31 : xs 31 = _ := goods_get hg (i := 31) (j := 31) (d := 153) rfl
      have gk32 : xs 32 = _ := goods_get hg (i := 32) (j := 32) (d := 154) rfl
      have gk33 : xs 33 = _ := goods_get hg (i := 33) (j := 33) (d := 155) rfl
      have gk34 : xs 34 = _ := goods_get hg (i := 34) (j := 34) (d := 156) rfl
      have gk35 : xs 35 = _ := goods_get hg (i := 35) (j := 35) (d := 157) rfl
      have gk36 : xs 36 = _ := goods_get hg (i := 36) (j := 36) (d := 158) rfl
      have gk37 : xs 37 = _ := goods_get hg (i := 37) (j := 37) (d := 159) rfl
      have gk38 : xs 38 = _ := goods_get hg (i := 38) (j := 38) (d := 160) rfl
      have gk39 : xs 39 = _ := goods_get hg (i := 39) (j := 39) (d := 161) rfl
      have gk40 : xs 40 = _ := goods_get hg (i := 40) (j := 40) (d := 162) rfl
      have gk41 : xs 41 = _ := goods_get hg (i := 41) (j := 41) (d := 163) rfl
      have gk42 : xs 42 = _ := goods_get hg (i := 42) (j := 42) (d := 164) rfl
      have gk43 : xs 43 = _ := goods_get hg (i := 43) (j := 43) (d := 2) rfl
      clear hg
      simp only [putAll, gk0, gk1, gk2, gk3, gk4, gk5, gk6, gk7, gk8, gk9, gk10, gk11, gk12, gk13, gk14, gk15, gk16, gk17, gk18, gk19, gk20, gk21, gk22, gk23, gk24, gk25, gk26, gk27, gk28, gk29, gk30, gk31, gk32, gk33, gk34, gk35, gk36, gk37, gk38, gk39, gk40, gk41, gk42, gk43]
      clear gk0 gk1 gk2 gk3 gk4 gk5 gk6 gk7 gk8 gk9 gk10 gk11 gk12 gk13 gk14 gk15 gk16 gk17 gk18 gk19 gk20 gk21 gk22 gk23 gk24 gk25 gk26 gk27 gk28 gk29 gk30 gk31 gk32 gk33 gk34 gk35 gk36 gk37 gk38 gk39 gk40 gk41 gk42 gk43
      clear xs
      simp only [Act.put, List.setIfInBounds_toArray, List.set_cons_zero, List.set_cons_succ]
      go_wp2
      go_ret
      exact ⟨rfl, hW.trans (hx2.trans hx.drawn)⟩
set_option maxRecDepth 100000 in
theorem open_one {H : Type} {enc : TypeId × Value → H} {w : World} {base : Nat} {b0 : Nat} {v : Value} {d : DataW H} {p : List MemPlace} (hv : Value.okWide Try.prog w .any b0 76 v) (h : DataW.Trod enc Try.prog w base (fun _ => true) true 76 v d p) (hL : Light Try.prog 76 d) :
  ∃ (T C : Int) (A : Option Addr) (q c : Nat) (ws : List Int) (R : Int) (A0 A1 : Option Addr) (n0 c0 n1 c1 : Nat) (l0 l1 : List St) (me : Int) (a : AccK) (D : Option Addr) (m cd : Nat) (E : Option Addr) (p ce : Nat) (fail : Bool),
   v = .agg #[.int .i64 T, .int .i64 C, .slice A q c, .int .u64 R, .slice A0 n0 c0, .slice A1 n1 c1, .int .i64 me, .int .i64 a.kind, .int .i64 a.cell, .int .u64 a.a, .int .u64 a.b, .slice D m cd, .slice E p ce, .bool fail] ∧ WldP w A q c ws R A0 A1 n0 c0 n1 c1 l0 l1 ∧ AccV w (.agg #[.int .i64 a.kind, .int .i64 a.cell, .int .u64 a.a, .int .u64 a.b, .slice D m cd, .slice E p ce]) a ∧ a.data.length = m ∧ m ≤ 9223372036854775807 := by
 obtain ⟨cs, rfl, hsz⟩ := okWide_struct Try.underlying76 hv
 obtain ⟨fuel, hf⟩ := h
 obtain ⟨k, hg⟩ := open_inner_w Try.underlying76 hf hL
 have hl : cs.toList.length = 14 := by simpa [show Try.prog.cellsOf 76 = 14 by kernel_rfl] using hsz
 have hcs : (Value.agg cs).cells.toList = cs.toList := rfl
 rw [hcs] at hg
 have hcs2 : cs = cs.toList.toArray := by simp
 rw [hcs2]
 generalize cs.toList = l at *
 match l, hl with
 | [x0, x1, x2, x3, x4, x5, x6, x7, x8, x9, x10, x11, x12, x13], _ =>
 obtain ⟨_, t0, y0⟩ := hg 0 _ rfl
 obtain ⟨_, t1, -⟩ := hg 1 _ rfl
 obtain ⟨_, t2, -⟩ := hg 2 _ rfl
 obtain ⟨_, t3, -⟩ := hg 3 _ rfl
 obtain ⟨T, C, A, q, c, ws, R, A0, A1, n0, c0, n1, c1, l0, l1, e0, hP⟩ := open_world (by simp [cellsWorld]) t0 y0
 obtain ⟨me, e1, _, w1⟩ := DataW.trod_int Try.underlying3 t1
 obtain ⟨a, hA⟩ := open_access (by simp [show Try.prog.cellsOf 42 = 6 by kernel_rfl]) t2
 obtain ⟨fail, e3, _⟩ := DataW.trod_bool Try.underlying4 t3
 simp [cellsIntS, cellsWorld, cellsBoolS, show Try.prog.cellsOf 42 = 6 by kernel_rfl] at e0 e1 e3 hA
 obtain ⟨rfl, rfl, rfl, rfl, rfl, rfl⟩ := e0
 subst e1 e3
 have hA' := hA
 obtain ⟨D, m, cd, E, p, ce, e2, hD, -⟩ := hA
 simp only [Value.agg.injEq, Array.mk.injEq, List.cons.injEq, and_true] at e2
 obtain ⟨rfl, rfl, rfl, rfl, rfl, rfl⟩ := e2
 exact ⟨T, C, A, q, c, ws, R, A0, A1, n0, c0, n1, c1, l0, l1, me, a, D, m, cd, E, p, ce, fail, rfl, hP, hA', hD.len, Nat.le_trans hD.le hD.cap⟩
set_option maxRecDepth 100000 in
theorem AccessOne_lifted (os : Os) (started : os.Started) (H : Type) (enc : TypeId × Value → H) :
  ReturnsInHanded {} Try.checked os 6 .any (Rows.accessOneSpec.pre6 enc Try.prog Try.f6 Rows.accessOneRow.domain false) (Rows.accessOneSpec.post enc Try.prog Try.f6 false true false false) := by
 refine law_row_w os started H enc Rows.accessOneSpec rfl (fun ds h => by
  match ds, h with
  | [_], _ => rfl) (by kernel_rfl) Try.func6 rfl
  (by rw [Try.params6]; intro t ht; simp at ht; subst ht; exact ⟨by kernel_rfl, of_decide_eq_true (by kernel_rfl)⟩)
  (ChangeSpec.witness6 (enc := enc) (C := Try.checked) false ⟨#[], #[.agg #[.int .i64 0, .int .i64 0, .slice none 0 0, .int .u64 0, .slice none 0 0, .slice none 0 0, .int .i64 0, .int .i64 0, .int .i64 0, .int .u64 0, .int .u64 0, .slice none 0 0, .slice none 0 0, .bool false]], []⟩ 8 (by kernel_rfl) (by kernel_rfl) (by kernel_rfl) (by kernel_rfl)) ?_
 intro W base args ds ps hval hA hlt hlight
 rw [Try.params6] at hA hval
 obtain ⟨v0, d0, rfl, rfl, h0⟩ := trodAll_one hA
 obtain ⟨T, C, A, q, c, ws, R, A0, A1, n0, c0, n1, c1, l0, l1, me, a, D, m, cd, E, p, ce, fail, rfl, hP, ha, hml, hmm⟩ := open_one (hval 0 _ v0 rfl rfl) h0 (hlight 0 _ _ rfl rfl)
 exact one_walk T C A q c ws R A0 A1 n0 c0 n1 c1 l0 l1 me a D m cd E p ce fail W hP ha hml hmm
theorem AccessOne_holds : Rows.AccessOneSaid :=
 OpenClaim.holds_of_wide 6 Try.f6 rfl rfl rfl rfl rfl rfl rfl ⟨rfl, rfl, rfl, rfl, rfl⟩ rfl rfl rfl rfl rfl (by kernel_rfl) Try.func6 (by kernel_rfl)
  (of_decide_eq_true (by kernel_rfl)) (by unfold Func.isWrapper; rw [if_neg (of_decide_eq_false (by kernel_rfl))]; exact ⟨rfl, rfl⟩)
  (fun os started H enc _ => AccessOne_lifted os started H enc)
#print axioms AccessOne_holds
end Go.Proofs.Ytennnhfaghdeoaa
