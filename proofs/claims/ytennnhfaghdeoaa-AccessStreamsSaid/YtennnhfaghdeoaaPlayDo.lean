import Derived.Test.YtennnhfaghdeoaaChecked
import Derived.Test.YtennnhfaghdeoaaMem
import Derived.Outline
import Derived.WalkSmall
import Derived.Deep.CutRange
namespace Go.Proofs.Ytennnhfaghdeoaa
open Go.RowKit

/-! What is handed to a program: an access is told by the log, or stops all. -/
/-- as it was, but for one block -/
structure ExtB (g : Nat) (w w' : World) : Prop where
  os : w'.os = w.os
  tape : w'.tape = w.tape
  output : w'.output = w.output
  size : w.heap.size ≤ w'.heap.size
  block : ∀ k, k < w.heap.size → k ≠ g → w'.heap[k]? = w.heap[k]?
theorem ExtB.refl (g : Nat) (w : World) : ExtB g w w := ⟨rfl, rfl, rfl, Nat.le_refl _, fun _ _ _ => rfl⟩
theorem ExtB.trans {g : Nat} {a b c : World} (h : ExtB g a b) (k : ExtB g b c) : ExtB g a c :=
  ⟨k.os.trans h.os, k.tape.trans h.tape, k.output.trans h.output, Nat.le_trans h.size k.size, fun i hi hg => (k.block i (Nat.lt_of_lt_of_le hi h.size) hg).trans (h.block i hi hg)⟩
theorem ExtB.of {g : Nat} {w w' : World} (h : Ext w w') : ExtB g w w' := ⟨h.os, h.tape, h.output, h.size, fun k hk _ => h.block k hk⟩
theorem ExtB.set {g : Nat} {w w' : World} (h : ExtB g w w') (i : Nat) (u : Value) : ExtB g w (w'.setCell ⟨g, i, none⟩ u) :=
  ⟨h.os, h.tape, h.output, by simpa [World.setCell] using h.size, fun k hk hg => by rw [Below.heap_setCell _ _ _ _ hg]; exact h.block k hk hg⟩
theorem ExtB.heap {g : Nat} {w w' : World} (h : ExtB g w w') {k : Nat} {o : Obj} (hk : w.heap[k]? = some o) (hg : k ≠ g) : w'.heap[k]? = some o := by
  rw [h.block k (Array.getElem?_eq_some_iff.1 hk).1 hg]; exact hk
theorem ExtB.cell {g : Nat} {w w' : World} (h : ExtB g w w') {p : Addr} {v : Value} (hc : w.cell? p = some v) (hg : p.block ≠ g) : w'.cell? p = some v := by
  rw [World.cell?_of_block (h.block p.block (lt_of_cell hc) hg)]; exact hc
/-- back to 'nothing has turned', below what was there when the block was not -/
theorem ExtB.ext {g : Nat} {w0 w w' : World} (h : ExtB g w w') (h0 : Ext w0 w) (hg : w0.heap.size ≤ g) : Ext w0 w' :=
  ⟨h.os.trans h0.os, h.tape.trans h0.tape, h.output.trans h0.output, Nat.le_trans h0.size h.size, fun k hk => (h.block k (Nat.lt_of_lt_of_le hk h0.size) (by omega)).trans (h0.block k hk)⟩

/-- a result: a number, bytes, whether the disk failed -/
structure Res where
  n : Int
  A : Option Addr
  k : Nat
  c : Nat
  fail : Bool
def Res.v (r : Res) : Value := .agg #[.int .u64 r.n, .slice r.A r.k r.c, .bool r.fail]
/-- an access: its kind, a cell, two numbers, bytes, words -/
structure Acc where
  kind : Int
  cell : Int
  a : Int
  b : Int
  D : Option Addr
  dk : Nat
  dc : Nat
  W : Option Addr
  wk : Nat
  wc : Nat
def Acc.cells (x : Acc) : Array Value := #[.int .i64 x.kind, .int .i64 x.cell, .int .u64 x.a, .int .u64 x.b, .slice x.D x.dk x.dc, .slice x.W x.wk x.wc]
def Acc.v (x : Acc) : Value := .agg x.cells
/-- results in a row -/
def ResAt (w : World) (a : Addr) (i : Nat) (r : Res) : Prop := w.cell? (a.add (i * 3)) = some (.int .u64 r.n) ∧ w.cell? ((a.add (i * 3)).add 1) = some (.slice r.A r.k r.c) ∧ w.cell? ((a.add (i * 3)).add 2) = some (.bool r.fail)
/-- what is left of a log: how far it is gone through stands in one block, the log in another -/
def DoAt (m : Nat) (w : World) (gA gL : Nat) (rs : List Res) : Prop :=
  ∃ (i n c : Nat) (A : Option Addr) (fr : Nat × Nat), w.heap[gA]? = some (.cells #[.int .i64 i] 3 (0, 0)) ∧ w.heap[gL]? = some (.cells #[.slice A n c] 39 fr) ∧ n ≤ 65536 ∧ i + rs.length = n ∧ gA ≠ gL ∧
    ∀ j r, rs[j]? = some r → ∃ a, A = some a ∧ a.block ≠ gA ∧ a.block < m ∧ ResAt w a (i + j) r
theorem ResAt.extB {g : Nat} {w w' : World} {a : Addr} {i : Nat} {r : Res} (h : ResAt w a i r) (hx : ExtB g w w') (hg : a.block ≠ g) : ResAt w' a i r :=
  ⟨hx.cell h.1 (by rw [add_block]; exact hg), hx.cell h.2.1 (by rw [add_block, add_block]; exact hg), hx.cell h.2.2 (by rw [add_block, add_block]; exact hg)⟩
theorem DoAt.ext {m : Nat} {w w' : World} {gA gL : Nat} {rs : List Res} (h : DoAt m w gA gL rs) (hx : Ext w w') : DoAt m w' gA gL rs := by
  obtain ⟨i, n, c, A, fr, h1, h2, h3, h4, h5, h6⟩ := h
  have hk : ∀ {k : Nat} {o : Obj}, w.heap[k]? = some o → w'.heap[k]? = some o := fun {k o} hk => by rw [Below.block hx k (Array.getElem?_eq_some_iff.1 hk).1]; exact hk
  exact ⟨i, n, c, A, fr, hk h1, hk h2, h3, h4, h5, fun j r hr => let ⟨a, ha, hb, hm, hc⟩ := h6 j r hr; ⟨a, ha, hb, hm, hx.cell hc.1, hx.cell hc.2.1, hx.cell hc.2.2⟩⟩
/-- another block may turn too, if it came later -/
theorem DoAt.away {m g : Nat} {w w' : World} {gA gL : Nat} {rs : List Res} (h : DoAt m w gA gL rs) (hx : ExtB g w w') (hA : gA ≠ g) (hL : gL ≠ g) (hm : m ≤ g) : DoAt m w' gA gL rs := by
  obtain ⟨i, n, c, A, fr, h1, h2, h3, h4, h5, h6⟩ := h
  exact ⟨i, n, c, A, fr, hx.heap h1 hA, hx.heap h2 hL, h3, h4, h5, fun j r hr => let ⟨a, ha, hb, hl, hc⟩ := h6 j r hr; ⟨a, ha, hb, hl, hc.extB hx (by omega)⟩⟩
theorem DoAt.sizes {m : Nat} {w : World} {gA gL : Nat} {rs : List Res} (h : DoAt m w gA gL rs) : gA < w.heap.size ∧ gL < w.heap.size := by
  obtain ⟨i, n, c, A, fr, h1, h2, -⟩ := h
  exact ⟨(Array.getElem?_eq_some_iff.1 h1).1, (Array.getElem?_eq_some_iff.1 h2).1⟩
theorem add_add3 (a : Addr) (i j : Nat) : (a.add i).add j = a.add (i + j) := by
  unfold Addr.add
  by_cases hi : i = 0
  · subst hi; simp
  · by_cases hj : j = 0
    · subst hj; simp [hi]
    · simp [hi, hj]; omega
set_option maxRecDepth 100000 in
set_option maxHeartbeats 1000000 in
theorem do_next (a0 a1 a2 a3 a4 a5 : Value) (gA gL : Nat) (r : Res) (rs : List Res) (m : Nat) (w : World) (h : DoAt m w gA gL (r :: rs)) :
    Calls Try.prog 84 #[.agg #[a0, a1, a2, a3, a4, a5], .pointer (some ⟨gA, 0, none⟩), .pointer (some ⟨gL, 0, none⟩)] w fun e w' => e = .returned r.v ∧ DoAt m w' gA gL rs ∧ ExtB gA w w' := by
  obtain ⟨i, n, c, A, fr, h1, h2, h3, h4, h5, h6⟩ := h
  obtain ⟨a, rfl, hab, -, hr⟩ := h6 0 r rfl
  obtain ⟨rn, rA, rk, rc, rf⟩ := r
  obtain ⟨q0, q1, q2⟩ := hr
  simp only [Nat.add_zero] at q0 q1 q2
  have c0 : w.cell? ⟨gA, 0, none⟩ = some (.int .i64 i) := by simp [World.cell?, h1]
  have c1 : w.cell? ⟨gL, 0, none⟩ = some (.slice (some a) n c) := by simp [World.cell?, h2]
  have f0 : w.frozen? ⟨gA, 0, none⟩ = false := by simp [World.frozen?, h1]
  have hin : i < n := by simp at h4; omega
  have hlA : gA < w.heap.size := lt_of_cell c0
  have hne : ¬ ((i : Int) = (n : Int)) := by omega
  have hW : Ext w ((w.alloc (.cells #[a0, a1, a2, a3, a4, a5] 42)).alloc (.cells #[.int .u64 0, .slice none 0 0, .bool false] 51)) := ((Below.refl _ w).alloc (Nat.le_refl _) _).alloc (by simp) _
  have hres : ((w.alloc (.cells #[a0, a1, a2, a3, a4, a5] 42)).alloc (.cells #[.int .u64 0, .slice none 0 0, .bool false] 51)).heap[w.heap.size + 1]? = some (.cells #[.int .u64 0, .slice none 0 0, .bool false] 51 (0, 0)) := by
    simpa using heap_alloc_new (w.alloc (.cells #[a0, a1, a2, a3, a4, a5] 42)) (.cells #[.int .u64 0, .slice none 0 0, .bool false] 51)
  go_enter Try.func84, Try.ntmps84
  go_upto_region 1 with (fail)
  generalize (w.alloc (.cells #[a0, a1, a2, a3, a4, a5] 42)).alloc (.cells #[.int .u64 0, .slice none 0 0, .bool false] 51) = W at *
  have d0 := hW.cell c0
  have d1 := hW.cell c1
  have e0 : W.frozen? ⟨gA, 0, none⟩ = false := by rw [hW.frozen hlA]; exact f0
  go_upto_region 4 with (fail)
  have hB : ExtB gA w (W.setCell ⟨gA, 0, none⟩ (.int .i64 ((i : Int) + 1))) := (ExtB.of hW).set _ _
  have d2 : (W.setCell ⟨gA, 0, none⟩ (.int .i64 ((i : Int) + 1))).cell? ⟨gA, 0, none⟩ = some (.int .i64 ((i : Int) + 1)) := World.cell?_setCell_same W _ _ d0
  have d3 := hB.cell c1 (fun e => h5 e.symm)
  have p0 := hB.cell q0 (by rw [add_block]; exact hab)
  have p1 := hB.cell q1 (by rw [add_block, add_block]; exact hab)
  have p2 := hB.cell q2 (by rw [add_block, add_block]; exact hab)
  rw [show (a.add (i * 3)).add 1 = ⟨(a.add (i * 3)).block, (a.add (i * 3)).off + 1, none⟩ from rfl] at p1
  rw [show (a.add (i * 3)).add 2 = ⟨(a.add (i * 3)).block, (a.add (i * 3)).off + 2, none⟩ from rfl] at p2
  have g2 : (W.setCell ⟨gA, 0, none⟩ (.int .i64 ((i : Int) + 1))).heap[gA]? = some (.cells #[.int .i64 ((i : Int) + 1)] 3 (0, 0)) := by
    have hg : W.heap[gA]? = some (.cells #[.int .i64 i] 3 (0, 0)) := by rw [Below.block hW gA hlA]; exact h1
    simp [World.setCell, Array.getElem?_modify, hg]
  have g3 : (W.setCell ⟨gA, 0, none⟩ (.int .i64 ((i : Int) + 1))).heap[w.heap.size + 1]? = some (.cells #[.int .u64 0, .slice none 0 0, .bool false] 51 (0, 0)) := by
    rw [Below.heap_setCell _ _ _ _ (by simp; omega)]; exact hres
  clear d0 d1 e0 hres
  generalize W.setCell ⟨gA, 0, none⟩ (.int .i64 ((i : Int) + 1)) = W2 at *
  have x0 : W2.cell? ⟨w.heap.size + 1, 0, none⟩ = some (.int .u64 0) := by simp [World.cell?, g3]
  have x1 : W2.cell? ⟨w.heap.size + 1, 1, none⟩ = some (.slice none 0 0) := by simp [World.cell?, g3]
  have x2 : W2.cell? ⟨w.heap.size + 1, 2, none⟩ = some (.bool false) := by simp [World.cell?, g3]
  have y0 : W2.frozen? ⟨w.heap.size + 1, 0, none⟩ = false := by simp [World.frozen?, g3]
  have y1 : W2.frozen? ⟨w.heap.size + 1, 1, none⟩ = false := by simp [World.frozen?, g3]
  have y2 : W2.frozen? ⟨w.heap.size + 1, 2, none⟩ = false := by simp [World.frozen?, g3]
  go_wp2
  have hend : ExtB gA w (((W2.setCell ⟨w.heap.size + 1, 0, none⟩ (.int .u64 rn)).setCell ⟨w.heap.size + 1, 1, none⟩ (.slice rA rk rc)).setCell ⟨w.heap.size + 1, 2, none⟩ (.bool rf)) :=
    ⟨hB.os, hB.tape, hB.output, by simpa [World.setCell] using hB.size, fun k hk hg => by
      rw [Below.heap_setCell _ _ _ _ (by simp; omega), Below.heap_setCell _ _ _ _ (by simp; omega), Below.heap_setCell _ _ _ _ (by simp; omega)]; exact hB.block k hk hg⟩
  have g4 : (((W2.setCell ⟨w.heap.size + 1, 0, none⟩ (.int .u64 rn)).setCell ⟨w.heap.size + 1, 1, none⟩ (.slice rA rk rc)).setCell ⟨w.heap.size + 1, 2, none⟩ (.bool rf)).heap[gA]? = some (.cells #[.int .i64 ((i : Int) + 1)] 3 (0, 0)) := by
    rw [Below.heap_setCell _ _ _ _ (by simp; omega), Below.heap_setCell _ _ _ _ (by simp; omega), Below.heap_setCell _ _ _ _ (by simp; omega)]; exact g2
  refine bodyPost_ret (v := .agg #[.int .u64 rn, .slice rA rk rc, .bool rf]) (by simp [results, Try.results84, go_sem, x0, x1, x2]) rfl ⟨rfl, ⟨i + 1, n, c, some a, fr, by simpa using g4, hend.heap h2 (fun e => h5 e.symm), h3, by simp at h4; omega, h5, fun j r hr => ?_⟩, hend⟩
  obtain ⟨a', ha', hb', hm', hc'⟩ := h6 (j + 1) r (by simpa using hr)
  exact ⟨a', ha', hb', hm', by rw [show i + 1 + j = i + (j + 1) by omega]; exact hc'.extB hend hb'⟩
/-- what a program is stopped with -/
def needP (a : Array Value) : Ending := .panicked [{ v := .iface 134 (.agg a), recovered := false }]
set_option maxRecDepth 100000 in
set_option maxHeartbeats 1000000 in
theorem do_stop (a0 a1 a2 a3 a4 a5 : Value) (gA gL : Nat) (m : Nat) (w : World) (h : DoAt m w gA gL []) :
    Calls Try.prog 84 #[.agg #[a0, a1, a2, a3, a4, a5], .pointer (some ⟨gA, 0, none⟩), .pointer (some ⟨gL, 0, none⟩)] w fun e w' => e = needP #[a0, a1, a2, a3, a4, a5] ∧ Ext w w' := by
  obtain ⟨i, n, c, A, fr, h1, h2, h3, h4, h5, h6⟩ := h
  obtain rfl : i = n := by simpa using h4
  have c0 : w.cell? ⟨gA, 0, none⟩ = some (.int .i64 i) := by simp [World.cell?, h1]
  have c1 : w.cell? ⟨gL, 0, none⟩ = some (.slice A i c) := by simp [World.cell?, h2]
  have hW : Ext w ((w.alloc (.cells #[a0, a1, a2, a3, a4, a5] 42)).alloc (.cells #[.int .u64 0, .slice none 0 0, .bool false] 51)) := ((Below.refl _ w).alloc (Nat.le_refl _) _).alloc (by simp) _
  have b0 : ∀ k v, (#[a0, a1, a2, a3, a4, a5] : Array Value)[k]? = some v → ((w.alloc (.cells #[a0, a1, a2, a3, a4, a5] 42)).alloc (.cells #[.int .u64 0, .slice none 0 0, .bool false] 51)).cell? ⟨w.heap.size, k, none⟩ = some v := fun k v hk => by
    have hg : ((w.alloc (.cells #[a0, a1, a2, a3, a4, a5] 42)).alloc (.cells #[.int .u64 0, .slice none 0 0, .bool false] 51)).heap[w.heap.size]? = some (.cells #[a0, a1, a2, a3, a4, a5] 42 (0, 0)) := by
      rw [Below.heap_alloc _ _ _ (by simp)]; exact heap_alloc_new w _
    simp only [World.cell?, hg, Option.isSome_none, Bool.false_eq_true, if_false]
    exact hk
  have z0 := b0 0 a0 rfl
  have z1 := b0 1 a1 rfl
  have z2 := b0 2 a2 rfl
  have z3 := b0 3 a3 rfl
  have z4 := b0 4 a4 rfl
  have z5 := b0 5 a5 rfl
  clear b0
  go_enter Try.func84, Try.ntmps84
  go_upto_region 1 with (fail)
  generalize (w.alloc (.cells #[a0, a1, a2, a3, a4, a5] 42)).alloc (.cells #[.int .u64 0, .slice none 0 0, .bool false] 51) = W at *
  have d0 := hW.cell c0
  have d1 := hW.cell c1
  go_wp2
  exact ⟨rfl, rfl, hW⟩
end Go.Proofs.Ytennnhfaghdeoaa
