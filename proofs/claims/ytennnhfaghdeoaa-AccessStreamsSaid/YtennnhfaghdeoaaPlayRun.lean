import Derived.Test.YtennnhfaghdeoaaPlayDo
import Derived.Test.YtennnhfaghdeoaaSlices
import Derived.Lib.Hide
import Derived.Tactics
import Derived.RegionTactic
import Derived.Tactics2
import Derived.Defers
import Derived.Recover
import Derived.Laws.Pointers
namespace Go.Proofs.Ytennnhfaghdeoaa
open Go.RowKit

/-! play.Run: the closure that it defers. -/
def outZero : Array Value := #[.int .i64 0, .bool false, .int .i64 0, .int .u64 0, .slice none 0 0]
def accZero : Array Value := #[.int .i64 0, .int .i64 0, .int .u64 0, .int .u64 0, .slice none 0 0, .slice none 0 0]
theorem assert_nil (T : TypeId) (W : World) : (Instr.typeAssert .nilIface T 134 true).run Try.prog W = .ok (.tuple #[.agg #[.int .i64 0, .int .i64 0, .int .u64 0, .int .u64 0, .slice none 0 0, .slice none 0 0], .bool false]) W := by kernel_rfl
theorem assert_need (T : TypeId) (a : Array Value) (W : World) : (Instr.typeAssert (.iface 134 (.agg a)) T 134 true).run Try.prog W = .ok (.tuple #[.agg a, .bool true]) W := by kernel_rfl
set_option maxRecDepth 100000 in
set_option maxHeartbeats 1000000 in
theorem catch_idle (p q r : Addr) (w : World) :
    CallsD Try.prog 83 #[.pointer (some p), .pointer (some q), .pointer (some r)] .returning w fun e u' w' => e = .returned (.tuple #[]) ∧ u' = .returning ∧ Ext w w' := by
  refine callsD_of_wpS Try.func83 rfl fun c₀ cs hu => ?_
  change Code.wpS _ _ _ ⟨#[.pointer (some p), .pointer (some q), .pointer (some r), undef, undef, undef, undef, undef, undef, undef, undef, undef, undef, undef], []⟩ _ _
  apply wpS_seq
  apply wpS_region
  simp [wpOpsS, go_sem, recoverD, hu, Exit.thenS, assert_nil]
  refine wpS_of_wp ?_
  have hE : Ext w (w.alloc (.cells #[.int .i64 0, .int .i64 0, .int .u64 0, .int .u64 0, .slice none 0 0, .slice none 0 0] 134)) := (Below.refl _ w).alloc (Nat.le_refl _) _
  go_wp2
  cases c₀
  simp_all [bodyPostS, results, Try.results83]
/-- behind the closure that a stop runs into -/
structure Caught (a : Array Value) (gE gO gD : Nat) (w w' : World) : Prop where
  E : w'.heap[gE]? = some (.cells a 42 (0, 0))
  O : w'.heap[gO]? = some (.cells outZero 46 (0, 0))
  D : w'.heap[gD]? = some (.cells #[.bool false] 4 (0, 0))
  size : w.heap.size ≤ w'.heap.size
  os : w'.os = w.os
  tape : w'.tape = w.tape
  output : w'.output = w.output
  block : ∀ k, k < w.heap.size → k ≠ gE → k ≠ gO → k ≠ gD → w'.heap[k]? = w.heap[k]?
set_option maxRecDepth 100000 in
set_option maxHeartbeats 4000000 in
theorem catch_stop (x : Acc) (gE gO gD : Nat) (w : World) (hEO : gE ≠ gO) (hED : gE ≠ gD) (hOD : gO ≠ gD)
    (hgE : w.heap[gE]? = some (.cells accZero 42 (0, 0))) (hgO : w.heap[gO]? = some (.cells outZero 46 (0, 0))) (hgD : w.heap[gD]? = some (.cells #[.bool false] 4 (0, 0))) :
    CallsD Try.prog 83 #[.pointer (some ⟨gE, 0, none⟩), .pointer (some ⟨gO, 0, none⟩), .pointer (some ⟨gD, 0, none⟩)] (.panicking [{ v := .iface 134 (.agg x.cells), recovered := false }]) w fun e u' w' =>
      e = .returned (.tuple #[]) ∧ u' = .panicking [{ v := .iface 134 (.agg x.cells), recovered := true }] ∧ Caught x.cells gE gO gD w w' := by
  obtain ⟨x0, x1, x2, x3, x4, x5, x6, x7, x8, x9⟩ := x
  simp only [Acc.cells]
  refine callsD_of_wpS Try.func83 rfl fun c₀ cs hu => ?_
  change Code.wpS _ _ _ ⟨#[.pointer (some ⟨gE, 0, none⟩), .pointer (some ⟨gO, 0, none⟩), .pointer (some ⟨gD, 0, none⟩), undef, undef, undef, undef, undef, undef, undef, undef, undef, undef, undef], []⟩ _ _
  apply wpS_seq
  apply wpS_region
  simp [wpOpsS, go_sem, recoverD, hu, Exit.thenS, assert_need]
  refine wpS_of_wp ?_
  have hW : Ext w (w.alloc (.cells #[.int .i64 x0, .int .i64 x1, .int .u64 x2, .int .u64 x3, .slice x4 x5 x6, .slice x7 x8 x9] 134)) := (Below.refl _ w).alloc (Nat.le_refl _) _
  have hgN : (w.alloc (.cells #[.int .i64 x0, .int .i64 x1, .int .u64 x2, .int .u64 x3, .slice x4 x5 x6, .slice x7 x8 x9] 134)).heap[w.heap.size]? = some (.cells #[.int .i64 x0, .int .i64 x1, .int .u64 x2, .int .u64 x3, .slice x4 x5 x6, .slice x7 x8 x9] 134 (0, 0)) := heap_alloc_new w _
  replace hgE := heap_ext hgE hW
  replace hgO := heap_ext hgO hW
  replace hgD := heap_ext hgD hW
  have hsz := hW.size
  have hblk := hW.block
  have hos := hW.os
  have hta := hW.tape
  have hou := hW.output
  generalize w.alloc (.cells #[.int .i64 x0, .int .i64 x1, .int .u64 x2, .int .u64 x3, .slice x4 x5 x6, .slice x7 x8 x9] 134) = W at *
  simp only [accZero, outZero] at hgE hgO
  have c0 : W.cell? ⟨gE, 0, none⟩ = some (.int .i64 0) := by simp [World.cell?, hgE]
  have f0 : W.frozen? ⟨gE, 0, none⟩ = false := by simp [World.frozen?, hgE]
  have c1 : W.cell? ⟨gE, 1, none⟩ = some (.int .i64 0) := by simp [World.cell?, hgE]
  have f1 : W.frozen? ⟨gE, 1, none⟩ = false := by simp [World.frozen?, hgE]
  have c2 : W.cell? ⟨gE, 2, none⟩ = some (.int .u64 0) := by simp [World.cell?, hgE]
  have f2 : W.frozen? ⟨gE, 2, none⟩ = false := by simp [World.frozen?, hgE]
  have c3 : W.cell? ⟨gE, 3, none⟩ = some (.int .u64 0) := by simp [World.cell?, hgE]
  have f3 : W.frozen? ⟨gE, 3, none⟩ = false := by simp [World.frozen?, hgE]
  have c4 : W.cell? ⟨gE, 4, none⟩ = some (.slice none 0 0) := by simp [World.cell?, hgE]
  have f4 : W.frozen? ⟨gE, 4, none⟩ = false := by simp [World.frozen?, hgE]
  have c5 : W.cell? ⟨gE, 5, none⟩ = some (.slice none 0 0) := by simp [World.cell?, hgE]
  have f5 : W.frozen? ⟨gE, 5, none⟩ = false := by simp [World.frozen?, hgE]
  have d0 : W.cell? ⟨gO, 0, none⟩ = some (.int .i64 0) := by simp [World.cell?, hgO]
  have g0 : W.frozen? ⟨gO, 0, none⟩ = false := by simp [World.frozen?, hgO]
  have d1 : W.cell? ⟨gO, 1, none⟩ = some (.bool false) := by simp [World.cell?, hgO]
  have g1 : W.frozen? ⟨gO, 1, none⟩ = false := by simp [World.frozen?, hgO]
  have d2 : W.cell? ⟨gO, 2, none⟩ = some (.int .i64 0) := by simp [World.cell?, hgO]
  have g2 : W.frozen? ⟨gO, 2, none⟩ = false := by simp [World.frozen?, hgO]
  have d3 : W.cell? ⟨gO, 3, none⟩ = some (.int .u64 0) := by simp [World.cell?, hgO]
  have g3 : W.frozen? ⟨gO, 3, none⟩ = false := by simp [World.frozen?, hgO]
  have d4 : W.cell? ⟨gO, 4, none⟩ = some (.slice none 0 0) := by simp [World.cell?, hgO]
  have g4 : W.frozen? ⟨gO, 4, none⟩ = false := by simp [World.frozen?, hgO]
  have e0 : W.cell? ⟨gD, 0, none⟩ = some (.bool false) := by simp [World.cell?, hgD]
  have h0 : W.frozen? ⟨gD, 0, none⟩ = false := by simp [World.frozen?, hgD]
  have b0 : W.cell? ⟨w.heap.size, 0, none⟩ = some (.int .i64 x0) := by simp [World.cell?, hgN]
  have b1 : W.cell? ⟨w.heap.size, 1, none⟩ = some (.int .i64 x1) := by simp [World.cell?, hgN]
  have b2 : W.cell? ⟨w.heap.size, 2, none⟩ = some (.int .u64 x2) := by simp [World.cell?, hgN]
  have b3 : W.cell? ⟨w.heap.size, 3, none⟩ = some (.int .u64 x3) := by simp [World.cell?, hgN]
  have b4 : W.cell? ⟨w.heap.size, 4, none⟩ = some (.slice x4 x5 x6) := by simp [World.cell?, hgN]
  have b5 : W.cell? ⟨w.heap.size, 5, none⟩ = some (.slice x7 x8 x9) := by simp [World.cell?, hgN]
  have n1 := Ne.symm hEO
  have n2 := Ne.symm hED
  have n3 := Ne.symm hOD
  clear hW
  have HE := Lib.hid hgE
  have HO := Lib.hid hgO
  have HD := Lib.hid hgD
  have HB := Lib.hid hblk
  clear hgE hgO hgD hgN hblk
  go_wp2
  cases c₀
  simp only at hu
  subst hu
  refine ⟨rfl, _, rfl, .tuple #[], by simp [results, Try.results83], rfl, rfl, ?_⟩
  have HE' := HE.out
  have HO' := HO.out
  have HD' := HD.out
  change Caught _ gE gO gD w (setAll gD 0 [.bool false] (setAll gO 0 [.int .i64 0, .bool false, .int .i64 0, .int .u64 0, .slice none 0 0] (setAll gE 0 [.int .i64 x0, .int .i64 x1, .int .u64 x2, .int .u64 x3, .slice x4 x5 x6, .slice x7 x8 x9] W)))
  refine ⟨?_, ?_, ?_, ?_, ?_, ?_, ?_, ?_⟩
  · rw [setAll_other hED, setAll_other hEO]
    exact setAll_all (old := [.int .i64 0, .int .i64 0, .int .u64 0, .int .u64 0, .slice none 0 0, .slice none 0 0]) HE' rfl
  · rw [setAll_other hOD]
    exact setAll_all (old := [.int .i64 0, .bool false, .int .i64 0, .int .u64 0, .slice none 0 0]) (by rw [setAll_other n1]; exact HO') rfl
  · exact setAll_all (old := [.bool false]) (by rw [setAll_other n3, setAll_other n2]; exact HD') rfl
  · rw [setAll_size, setAll_size, setAll_size]; exact hsz
  · rw [(setAll_rest _ _ _).1, (setAll_rest _ _ _).1, (setAll_rest _ _ _).1]; exact hos
  · rw [(setAll_rest _ _ _).2.1, (setAll_rest _ _ _).2.1, (setAll_rest _ _ _).2.1]; exact hta
  · rw [(setAll_rest _ _ _).2.2, (setAll_rest _ _ _).2.2, (setAll_rest _ _ _).2.2]; exact hou
  · intro k hk k1 k2 k3
    rw [setAll_other k3, setAll_other k2, setAll_other k1]
    exact HB.out k hk
/-- an answer, its list nil -/
structure OutN where
  err : Int
  is : Bool
  n : Int
  w : Int
def OutN.cells (o : OutN) : Array Value := #[.int .i64 o.err, .bool o.is, .int .i64 o.n, .int .u64 o.w, .slice none 0 0]
/-- what a program is handed -/
def doV (gA gL : Nat) : Value := .func (.func 84) #[] #[.pointer (some ⟨gA, 0, none⟩), .pointer (some ⟨gL, 0, none⟩)]
/-- a log that came in -/
structure LogV (w : World) (A : Option Addr) (n c : Nat) (rs : List Res) : Prop where
  len : rs.length = n
  small : n ≤ 65536
  at_ : ∀ j r, rs[j]? = some r → ∃ a, A = some a ∧ ResAt w a j r
theorem LogV.ext {w w' : World} {A : Option Addr} {n c : Nat} {rs : List Res} (h : LogV w A n c rs) (hx : Ext w w') : LogV w' A n c rs :=
  ⟨h.len, h.small, fun j r hr => let ⟨a, ha, h1, h2, h3⟩ := h.at_ j r hr; ⟨a, ha, hx.cell h1, hx.cell h2, hx.cell h3⟩⟩
theorem LogV.start {w W : World} {A : Option Addr} {n c : Nat} {rs : List Res} (h : LogV w A n c rs) (hx : Ext w W) {gA gL : Nat} {fr : Nat × Nat} (h1 : W.heap[gA]? = some (.cells #[.int .i64 0] 3 (0, 0)))
    (h2 : W.heap[gL]? = some (.cells #[.slice A n c] 39 fr)) (hne : gA ≠ gL) (hA : w.heap.size ≤ gA) : DoAt w.heap.size W gA gL rs := by
  refine ⟨0, n, c, A, fr, by simpa using h1, h2, h.small, by rw [h.len]; omega, hne, fun j r hr => ?_⟩
  obtain ⟨a, ha, hr1⟩ := h.at_ j r hr
  have hl := lt_of_cell hr1.1
  rw [add_block] at hl
  exact ⟨a, ha, by omega, hl, by rw [Nat.zero_add]; exact ⟨hx.cell hr1.1, hx.cell hr1.2.1, hx.cell hr1.2.2⟩⟩
theorem five_boxes (w : World) (o0 o1 o2 o3 o4 : Obj) :
    Ext w (((((w.alloc o0).alloc o1).alloc o2).alloc o3).alloc o4) ∧ (((((w.alloc o0).alloc o1).alloc o2).alloc o3).alloc o4).heap.size = w.heap.size + 5 ∧
    (((((w.alloc o0).alloc o1).alloc o2).alloc o3).alloc o4).heap[w.heap.size]? = some o0 ∧ (((((w.alloc o0).alloc o1).alloc o2).alloc o3).alloc o4).heap[w.heap.size + 1]? = some o1 ∧
    (((((w.alloc o0).alloc o1).alloc o2).alloc o3).alloc o4).heap[w.heap.size + 1 + 1]? = some o2 ∧ (((((w.alloc o0).alloc o1).alloc o2).alloc o3).alloc o4).heap[w.heap.size + 1 + 1 + 1]? = some o3 ∧
    (((((w.alloc o0).alloc o1).alloc o2).alloc o3).alloc o4).heap[w.heap.size + 1 + 1 + 1 + 1]? = some o4 := by
  refine ⟨((((((Below.refl _ w).alloc (Nat.le_refl _) _).alloc (by simp) _).alloc (by simp; omega) _).alloc (by simp; omega) _).alloc (by simp; omega) _), by simp, ?_, ?_, ?_, ?_, ?_⟩
  · rw [Below.heap_alloc _ _ _ (by first | (simp; omega) | simp), Below.heap_alloc _ _ _ (by first | (simp; omega) | simp), Below.heap_alloc _ _ _ (by first | (simp; omega) | simp), Below.heap_alloc _ _ _ (by first | (simp; omega) | simp)]
    simpa using heap_alloc_new w o0
  · rw [Below.heap_alloc _ _ _ (by first | (simp; omega) | simp), Below.heap_alloc _ _ _ (by first | (simp; omega) | simp), Below.heap_alloc _ _ _ (by first | (simp; omega) | simp)]
    simpa using heap_alloc_new (w.alloc o0) o1
  · rw [Below.heap_alloc _ _ _ (by first | (simp; omega) | simp), Below.heap_alloc _ _ _ (by first | (simp; omega) | simp)]
    simpa using heap_alloc_new ((w.alloc o0).alloc o1) o2
  · rw [Below.heap_alloc _ _ _ (by first | (simp; omega) | simp)]
    simpa using heap_alloc_new (((w.alloc o0).alloc o1).alloc o2) o3
  · simpa using heap_alloc_new ((((w.alloc o0).alloc o1).alloc o2).alloc o3) o4
set_option maxRecDepth 100000 in
set_option maxHeartbeats 4000000 in
theorem run_done (fP : FuncId) (caps : Array Value) (A : Option Addr) (n c : Nat) (rs : List Res) (o : OutN) (w : World) (hlog : LogV w A n c rs)
    (hcall : ∀ (args : Array Value) (w : World), (callFunc fP args).run Try.prog w = .ok (.enter fP args) w)
    (hprog : ∀ (gA gL : Nat) (W : World), Ext w W → w.heap.size ≤ gA → gA < W.heap.size → DoAt w.heap.size W gA gL rs → Calls Try.prog fP (#[doV gA gL] ++ caps) W fun e W' => e = .returned (.agg o.cells) ∧ ExtB gA W W') :
    Calls Try.prog 30 #[.func (.func fP) #[] caps, .slice A n c] w fun e w' => e = .returned (.tuple #[.agg accZero, .agg o.cells, .bool true]) ∧ Ext w w' := by
  have hmf : ∀ (fn : Fn) (first cap : Array Value) (w : World), (Instr.makeFunc fn first cap).run Try.prog w = .ok (.func fn first cap) w := fun _ _ _ _ => rfl
  go_enter_defers Try.func30, Try.ntmps30
  go_upto_region 3 with (fail)
  obtain ⟨hW, hsz, hL, hE, hO, hD, hA⟩ := five_boxes w (.cells #[.slice A n c] 39) (.cells #[.int .i64 0, .int .i64 0, .int .u64 0, .int .u64 0, .slice none 0 0, .slice none 0 0] 42)
    (.cells #[.int .i64 0, .bool false, .int .i64 0, .int .u64 0, .slice none 0 0] 46) (.cells #[.bool false] 4) (.cells #[.int .i64 0] 3)
  generalize ((((w.alloc (.cells #[.slice A n c] 39)).alloc (.cells #[.int .i64 0, .int .i64 0, .int .u64 0, .int .u64 0, .slice none 0 0, .slice none 0 0] 42)).alloc
    (.cells #[.int .i64 0, .bool false, .int .i64 0, .int .u64 0, .slice none 0 0] 46)).alloc (.cells #[.bool false] 4)).alloc (.cells #[.int .i64 0] 3) = W at *
  have hdo := hlog.start hW hA hL (by omega) (by omega)
  have hcl := hprog _ _ W hW (by omega) (by omega) hdo
  go_wp2_with fail
  refine hcl.mono ?_
  rintro e w2 ⟨rfl, hB⟩
  have hE2 := hB.heap hE (by omega)
  have hO2 := hB.heap hO (by omega)
  have hD2 := hB.heap hD (by omega)
  have hx2 := hB.ext hW (by omega)
  have hs2 : w.heap.size + 5 ≤ w2.heap.size := by have := hB.size; omega
  clear hcl hdo hprog hE hO hD hL hA hW hB hsz
  obtain ⟨oe, ois, on, ow⟩ := o
  simp only [OutN.cells]
  have q0 : w2.cell? ⟨w.heap.size + 1 + 1, 0, none⟩ = some (.int .i64 0) := by simp [World.cell?, hO2]
  have q1 : w2.cell? ⟨w.heap.size + 1 + 1, 1, none⟩ = some (.bool false) := by simp [World.cell?, hO2]
  have q2 : w2.cell? ⟨w.heap.size + 1 + 1, 2, none⟩ = some (.int .i64 0) := by simp [World.cell?, hO2]
  have q3 : w2.cell? ⟨w.heap.size + 1 + 1, 3, none⟩ = some (.int .u64 0) := by simp [World.cell?, hO2]
  have q4 : w2.cell? ⟨w.heap.size + 1 + 1, 4, none⟩ = some (.slice none 0 0) := by simp [World.cell?, hO2]
  have f0 : w2.frozen? ⟨w.heap.size + 1 + 1, 0, none⟩ = false := by simp [World.frozen?, hO2]
  have f1 : w2.frozen? ⟨w.heap.size + 1 + 1, 1, none⟩ = false := by simp [World.frozen?, hO2]
  have f2 : w2.frozen? ⟨w.heap.size + 1 + 1, 2, none⟩ = false := by simp [World.frozen?, hO2]
  have f3 : w2.frozen? ⟨w.heap.size + 1 + 1, 3, none⟩ = false := by simp [World.frozen?, hO2]
  have f4 : w2.frozen? ⟨w.heap.size + 1 + 1, 4, none⟩ = false := by simp [World.frozen?, hO2]
  go_upto_region 4 with (fail)
  have hW3 : ((((w2.setCell ⟨w.heap.size + 1 + 1, 0, none⟩ (.int .i64 oe)).setCell ⟨w.heap.size + 1 + 1, 1, none⟩ (.bool ois)).setCell ⟨w.heap.size + 1 + 1, 2, none⟩ (.int .i64 on)).setCell ⟨w.heap.size + 1 + 1, 3, none⟩ (.int .u64 ow)).setCell ⟨w.heap.size + 1 + 1, 4, none⟩ (.slice none 0 0) =
      setAll (w.heap.size + 1 + 1) 0 [.int .i64 oe, .bool ois, .int .i64 on, .int .u64 ow, .slice none 0 0] w2 := rfl
  rw [hW3]
  have hO3 := setAll_all (vs := [.int .i64 oe, .bool ois, .int .i64 on, .int .u64 ow, .slice none 0 0]) (old := [.int .i64 0, .bool false, .int .i64 0, .int .u64 0, .slice none 0 0]) hO2 rfl
  have hE3 : (setAll (w.heap.size + 1 + 1) 0 [.int .i64 oe, .bool ois, .int .i64 on, .int .u64 ow, .slice none 0 0] w2).heap[w.heap.size + 1]? = _ := (setAll_other (by omega) _ _ _).trans hE2
  have hD3 : (setAll (w.heap.size + 1 + 1) 0 [.int .i64 oe, .bool ois, .int .i64 on, .int .u64 ow, .slice none 0 0] w2).heap[w.heap.size + 1 + 1 + 1]? = _ := (setAll_other (by omega) _ _ _).trans hD2
  have hx3 : Ext w (setAll (w.heap.size + 1 + 1) 0 [.int .i64 oe, .bool ois, .int .i64 on, .int .u64 ow, .slice none 0 0] w2) := setAll_ext hx2 (by omega)
  clear hW3 q0 q1 q2 q3 q4 f0 f1 f2 f3 f4 hO2 hE2 hD2 hx2
  generalize setAll (w.heap.size + 1 + 1) 0 [.int .i64 oe, .bool ois, .int .i64 on, .int .u64 ow, .slice none 0 0] w2 = W3 at *
  have c0 : W3.cell? ⟨w.heap.size + 1, 0, none⟩ = some (.int .i64 0) := by simp [World.cell?, hE3]
  have f0 : W3.frozen? ⟨w.heap.size + 1, 0, none⟩ = false := by simp [World.frozen?, hE3]
  have c1 : W3.cell? ⟨w.heap.size + 1, 1, none⟩ = some (.int .i64 0) := by simp [World.cell?, hE3]
  have f1 : W3.frozen? ⟨w.heap.size + 1, 1, none⟩ = false := by simp [World.frozen?, hE3]
  have c2 : W3.cell? ⟨w.heap.size + 1, 2, none⟩ = some (.int .u64 0) := by simp [World.cell?, hE3]
  have f2 : W3.frozen? ⟨w.heap.size + 1, 2, none⟩ = false := by simp [World.frozen?, hE3]
  have c3 : W3.cell? ⟨w.heap.size + 1, 3, none⟩ = some (.int .u64 0) := by simp [World.cell?, hE3]
  have f3 : W3.frozen? ⟨w.heap.size + 1, 3, none⟩ = false := by simp [World.frozen?, hE3]
  have c4 : W3.cell? ⟨w.heap.size + 1, 4, none⟩ = some (.slice none 0 0) := by simp [World.cell?, hE3]
  have f4 : W3.frozen? ⟨w.heap.size + 1, 4, none⟩ = false := by simp [World.frozen?, hE3]
  have c5 : W3.cell? ⟨w.heap.size + 1, 5, none⟩ = some (.slice none 0 0) := by simp [World.cell?, hE3]
  have f5 : W3.frozen? ⟨w.heap.size + 1, 5, none⟩ = false := by simp [World.frozen?, hE3]
  have d0 : W3.cell? ⟨w.heap.size + 1 + 1, 0, none⟩ = some (.int .i64 oe) := by simp [World.cell?, hO3]
  have g0 : W3.frozen? ⟨w.heap.size + 1 + 1, 0, none⟩ = false := by simp [World.frozen?, hO3]
  have d1 : W3.cell? ⟨w.heap.size + 1 + 1, 1, none⟩ = some (.bool ois) := by simp [World.cell?, hO3]
  have g1 : W3.frozen? ⟨w.heap.size + 1 + 1, 1, none⟩ = false := by simp [World.frozen?, hO3]
  have d2 : W3.cell? ⟨w.heap.size + 1 + 1, 2, none⟩ = some (.int .i64 on) := by simp [World.cell?, hO3]
  have g2 : W3.frozen? ⟨w.heap.size + 1 + 1, 2, none⟩ = false := by simp [World.frozen?, hO3]
  have d3 : W3.cell? ⟨w.heap.size + 1 + 1, 3, none⟩ = some (.int .u64 ow) := by simp [World.cell?, hO3]
  have g3 : W3.frozen? ⟨w.heap.size + 1 + 1, 3, none⟩ = false := by simp [World.frozen?, hO3]
  have d4 : W3.cell? ⟨w.heap.size + 1 + 1, 4, none⟩ = some (.slice none 0 0) := by simp [World.cell?, hO3]
  have g4 : W3.frozen? ⟨w.heap.size + 1 + 1, 4, none⟩ = false := by simp [World.frozen?, hO3]
  have e0 : W3.cell? ⟨w.heap.size + 1 + 1 + 1, 0, none⟩ = some (.bool false) := by simp [World.cell?, hD3]
  have h0 : W3.frozen? ⟨w.heap.size + 1 + 1 + 1, 0, none⟩ = false := by simp [World.frozen?, hD3]
  have HE := Lib.hid hE3
  have HO := Lib.hid hO3
  have HD := Lib.hid hD3
  clear hE3 hO3 hD3
  go_region
  all_goals
    go_wp2
    have hbig : ((((((((((((W3.setCell ⟨w.heap.size + 1, 0, none⟩ (.int .i64 0)).setCell ⟨w.heap.size + 1, 1, none⟩ (.int .i64 0)).setCell ⟨w.heap.size + 1, 2, none⟩ (.int .u64 0)).setCell ⟨w.heap.size + 1, 3, none⟩ (.int .u64 0)).setCell ⟨w.heap.size + 1, 4, none⟩ (.slice none 0 0)).setCell ⟨w.heap.size + 1, 5, none⟩ (.slice none 0 0)).setCell ⟨w.heap.size + 1 + 1, 0, none⟩ (.int .i64 oe)).setCell ⟨w.heap.size + 1 + 1, 1, none⟩ (.bool ois)).setCell ⟨w.heap.size + 1 + 1, 2, none⟩ (.int .i64 on)).setCell ⟨w.heap.size + 1 + 1, 3, none⟩ (.int .u64 ow)).setCell ⟨w.heap.size + 1 + 1, 4, none⟩ (.slice none 0 0)).setCell ⟨w.heap.size + 1 + 1 + 1, 0, none⟩ (.bool true)) = setAll (w.heap.size + 1 + 1 + 1) 0 [.bool true] (setAll (w.heap.size + 1 + 1) 0 [.int .i64 oe, .bool ois, .int .i64 on, .int .u64 ow, .slice none 0 0] (setAll (w.heap.size + 1) 0 [.int .i64 0, .int .i64 0, .int .u64 0, .int .u64 0, .slice none 0 0, .slice none 0 0] W3)) := rfl
    rw [hbig]
    clear hbig
    have hx4 : Ext w (setAll (w.heap.size + 1 + 1 + 1) 0 [.bool true] (setAll (w.heap.size + 1 + 1) 0 [.int .i64 oe, .bool ois, .int .i64 on, .int .u64 ow, .slice none 0 0] (setAll (w.heap.size + 1) 0 [.int .i64 0, .int .i64 0, .int .u64 0, .int .u64 0, .slice none 0 0, .slice none 0 0] W3))) := setAll_ext (setAll_ext (setAll_ext hx3 (by omega)) (by omega)) (by omega)
    have hE4 : (setAll (w.heap.size + 1 + 1 + 1) 0 [.bool true] (setAll (w.heap.size + 1 + 1) 0 [.int .i64 oe, .bool ois, .int .i64 on, .int .u64 ow, .slice none 0 0] (setAll (w.heap.size + 1) 0 [.int .i64 0, .int .i64 0, .int .u64 0, .int .u64 0, .slice none 0 0, .slice none 0 0] W3))).heap[w.heap.size + 1]? = some (.cells (List.toArray [.int .i64 0, .int .i64 0, .int .u64 0, .int .u64 0, .slice none 0 0, .slice none 0 0]) 42 (0, 0)) := by
      rw [setAll_other (by omega), setAll_other (by omega)]; exact setAll_all (old := [.int .i64 0, .int .i64 0, .int .u64 0, .int .u64 0, .slice none 0 0, .slice none 0 0]) HE.out rfl
    have hO4 : (setAll (w.heap.size + 1 + 1 + 1) 0 [.bool true] (setAll (w.heap.size + 1 + 1) 0 [.int .i64 oe, .bool ois, .int .i64 on, .int .u64 ow, .slice none 0 0] (setAll (w.heap.size + 1) 0 [.int .i64 0, .int .i64 0, .int .u64 0, .int .u64 0, .slice none 0 0, .slice none 0 0] W3))).heap[w.heap.size + 1 + 1]? = some (.cells (List.toArray [.int .i64 oe, .bool ois, .int .i64 on, .int .u64 ow, .slice none 0 0]) 46 (0, 0)) := by
      rw [setAll_other (by omega)]; exact setAll_all (old := [.int .i64 oe, .bool ois, .int .i64 on, .int .u64 ow, .slice none 0 0]) (by rw [setAll_other (by omega)]; exact HO.out) rfl
    have hD4 : (setAll (w.heap.size + 1 + 1 + 1) 0 [.bool true] (setAll (w.heap.size + 1 + 1) 0 [.int .i64 oe, .bool ois, .int .i64 on, .int .u64 ow, .slice none 0 0] (setAll (w.heap.size + 1) 0 [.int .i64 0, .int .i64 0, .int .u64 0, .int .u64 0, .slice none 0 0, .slice none 0 0] W3))).heap[w.heap.size + 1 + 1 + 1]? = some (.cells (List.toArray [.bool true]) 4 (0, 0)) :=
      setAll_all (old := [.bool false]) (by rw [setAll_other (by omega), setAll_other (by omega)]; exact HD.out) rfl
    clear c0 c1 c2 c3 c4 c5 f0 f1 f2 f3 f4 f5 d0 d1 d2 d3 d4 g0 g1 g2 g3 g4 e0 h0
    generalize setAll (w.heap.size + 1 + 1 + 1) 0 [.bool true] (setAll (w.heap.size + 1 + 1) 0 [.int .i64 oe, .bool ois, .int .i64 on, .int .u64 ow, .slice none 0 0] (setAll (w.heap.size + 1) 0 [.int .i64 0, .int .i64 0, .int .u64 0, .int .u64 0, .slice none 0 0, .slice none 0 0] W3)) = W4 at *
    refine leaves_cons (f := 83) (args := #[.pointer (some ⟨w.heap.size + 1, 0, none⟩), .pointer (some ⟨w.heap.size + 1 + 1, 0, none⟩), .pointer (some ⟨w.heap.size + 1 + 1 + 1, 0, none⟩)]) (by simp) (by simp [go_sem]) ?_
    refine (catch_idle _ _ _ _).mono ?_
    rintro e u' w5 ⟨rfl, rfl, hx5⟩
    replace hx5 := hx5.drawn
    have hE5 := heap_ext hE4 hx5
    have hO5 := heap_ext hO4 hx5
    have hD5 := heap_ext hD4 hx5
    have hx6 := hx4.trans hx5
    clear hE4 hO4 hD4 hx4 hx5
    have c0 : w5.cell? ⟨w.heap.size + 1, 0, none⟩ = some (.int .i64 0) := by simp [World.cell?, hE5]
    have c1 : w5.cell? ⟨w.heap.size + 1, 1, none⟩ = some (.int .i64 0) := by simp [World.cell?, hE5]
    have c2 : w5.cell? ⟨w.heap.size + 1, 2, none⟩ = some (.int .u64 0) := by simp [World.cell?, hE5]
    have c3 : w5.cell? ⟨w.heap.size + 1, 3, none⟩ = some (.int .u64 0) := by simp [World.cell?, hE5]
    have c4 : w5.cell? ⟨w.heap.size + 1, 4, none⟩ = some (.slice none 0 0) := by simp [World.cell?, hE5]
    have c5 : w5.cell? ⟨w.heap.size + 1, 5, none⟩ = some (.slice none 0 0) := by simp [World.cell?, hE5]
    have d0 : w5.cell? ⟨w.heap.size + 1 + 1, 0, none⟩ = some (.int .i64 oe) := by simp [World.cell?, hO5]
    have d1 : w5.cell? ⟨w.heap.size + 1 + 1, 1, none⟩ = some (.bool ois) := by simp [World.cell?, hO5]
    have d2 : w5.cell? ⟨w.heap.size + 1 + 1, 2, none⟩ = some (.int .i64 on) := by simp [World.cell?, hO5]
    have d3 : w5.cell? ⟨w.heap.size + 1 + 1, 3, none⟩ = some (.int .u64 ow) := by simp [World.cell?, hO5]
    have d4 : w5.cell? ⟨w.heap.size + 1 + 1, 4, none⟩ = some (.slice none 0 0) := by simp [World.cell?, hO5]
    have e0 : w5.cell? ⟨w.heap.size + 1 + 1 + 1, 0, none⟩ = some (.bool true) := by simp [World.cell?, hD5]
    refine ⟨.tuple #[.agg accZero, .agg #[.int .i64 oe, .bool ois, .int .i64 on, .int .u64 ow, .slice none 0 0], .bool true], ?_, rfl, hx6⟩
    simp [results, Try.results30, go_sem, c0, c1, c2, c3, c4, c5, d0, d1, d2, d3, d4, e0, accZero]
set_option maxRecDepth 100000 in
set_option maxHeartbeats 4000000 in
theorem run_stop (fP : FuncId) (caps : Array Value) (A : Option Addr) (n c : Nat) (rs : List Res) (x : Acc) (w : World) (hlog : LogV w A n c rs)
    (hcall : ∀ (args : Array Value) (w : World), (callFunc fP args).run Try.prog w = .ok (.enter fP args) w)
    (hprog : ∀ (gA gL : Nat) (W : World), Ext w W → w.heap.size ≤ gA → gA < W.heap.size → DoAt w.heap.size W gA gL rs → Calls Try.prog fP (#[doV gA gL] ++ caps) W fun e W' => e = needP x.cells ∧ ExtB gA W W') :
    Calls Try.prog 30 #[.func (.func fP) #[] caps, .slice A n c] w fun e w' => e = .returned (.tuple #[.agg x.cells, .agg outZero, .bool false]) ∧ Ext w w' := by
  have hmf : ∀ (fn : Fn) (first cap : Array Value) (w : World), (Instr.makeFunc fn first cap).run Try.prog w = .ok (.func fn first cap) w := fun _ _ _ _ => rfl
  go_enter_defers Try.func30, Try.ntmps30
  go_upto_region 3 with (fail)
  obtain ⟨hW, hsz, hL, hE, hO, hD, hA⟩ := five_boxes w (.cells #[.slice A n c] 39) (.cells #[.int .i64 0, .int .i64 0, .int .u64 0, .int .u64 0, .slice none 0 0, .slice none 0 0] 42)
    (.cells #[.int .i64 0, .bool false, .int .i64 0, .int .u64 0, .slice none 0 0] 46) (.cells #[.bool false] 4) (.cells #[.int .i64 0] 3)
  generalize ((((w.alloc (.cells #[.slice A n c] 39)).alloc (.cells #[.int .i64 0, .int .i64 0, .int .u64 0, .int .u64 0, .slice none 0 0, .slice none 0 0] 42)).alloc
    (.cells #[.int .i64 0, .bool false, .int .i64 0, .int .u64 0, .slice none 0 0] 46)).alloc (.cells #[.bool false] 4)).alloc (.cells #[.int .i64 0] 3) = W at *
  have hdo := hlog.start hW hA hL (by omega) (by omega)
  have hcl := hprog _ _ W hW (by omega) (by omega) hdo
  go_wp2_with fail
  refine hcl.mono ?_
  rintro e w2 ⟨rfl, hB⟩
  have hE2 := hB.heap hE (by omega)
  have hO2 := hB.heap hO (by omega)
  have hD2 := hB.heap hD (by omega)
  have hx2 := hB.ext hW (by omega)
  have hs2 : w.heap.size + 5 ≤ w2.heap.size := by have := hB.size; omega
  clear hcl hdo hprog hE hO hD hL hA hW hB hsz
  refine leaves_cons (f := 83) (args := #[.pointer (some ⟨w.heap.size + 1, 0, none⟩), .pointer (some ⟨w.heap.size + 1 + 1, 0, none⟩), .pointer (some ⟨w.heap.size + 1 + 1 + 1, 0, none⟩)]) (by simp) (by simp [go_sem]) ?_
  refine (catch_stop x _ _ _ w2 (by omega) (by omega) (by omega) hE2 hO2 hD2).mono ?_
  rintro e u' w5 ⟨rfl, rfl, hC⟩
  have hx6 : Ext w w5 := ⟨hC.os.trans hx2.os, hC.tape.trans hx2.tape, hC.output.trans hx2.output, Nat.le_trans hx2.size hC.size, fun k hk => by
    rw [hC.block k (by omega) (by omega) (by omega) (by omega)]; exact hx2.block k hk⟩
  have hE5 := hC.E
  have hO5 := hC.O
  have hD5 := hC.D
  clear hC hx2 hE2 hO2 hD2
  obtain ⟨x0, x1, x2, x3, x4, x5, x6, x7, x8, x9⟩ := x
  simp only [Acc.cells, outZero] at hE5 hO5
  have c0 : w5.cell? ⟨w.heap.size + 1, 0, none⟩ = some (.int .i64 x0) := by simp [World.cell?, hE5]
  have c1 : w5.cell? ⟨w.heap.size + 1, 1, none⟩ = some (.int .i64 x1) := by simp [World.cell?, hE5]
  have c2 : w5.cell? ⟨w.heap.size + 1, 2, none⟩ = some (.int .u64 x2) := by simp [World.cell?, hE5]
  have c3 : w5.cell? ⟨w.heap.size + 1, 3, none⟩ = some (.int .u64 x3) := by simp [World.cell?, hE5]
  have c4 : w5.cell? ⟨w.heap.size + 1, 4, none⟩ = some (.slice x4 x5 x6) := by simp [World.cell?, hE5]
  have c5 : w5.cell? ⟨w.heap.size + 1, 5, none⟩ = some (.slice x7 x8 x9) := by simp [World.cell?, hE5]
  have d0 : w5.cell? ⟨w.heap.size + 1 + 1, 0, none⟩ = some (.int .i64 0) := by simp [World.cell?, hO5]
  have d1 : w5.cell? ⟨w.heap.size + 1 + 1, 1, none⟩ = some (.bool false) := by simp [World.cell?, hO5]
  have d2 : w5.cell? ⟨w.heap.size + 1 + 1, 2, none⟩ = some (.int .i64 0) := by simp [World.cell?, hO5]
  have d3 : w5.cell? ⟨w.heap.size + 1 + 1, 3, none⟩ = some (.int .u64 0) := by simp [World.cell?, hO5]
  have d4 : w5.cell? ⟨w.heap.size + 1 + 1, 4, none⟩ = some (.slice none 0 0) := by simp [World.cell?, hO5]
  have e0 : w5.cell? ⟨w.heap.size + 1 + 1 + 1, 0, none⟩ = some (.bool false) := by simp [World.cell?, hD5]
  refine ⟨.tuple #[.agg #[.int .i64 x0, .int .i64 x1, .int .u64 x2, .int .u64 x3, .slice x4 x5 x6, .slice x7 x8 x9], .agg outZero, .bool false], ?_, rfl, hx6⟩
  simp [results, Try.results30, go_sem, c0, c1, c2, c3, c4, c5, d0, d1, d2, d3, d4, e0, outZero]
end Go.Proofs.Ytennnhfaghdeoaa
