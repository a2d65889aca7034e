import Derived.Test.YtennnhfaghdeoaaPlayAsk
import Derived.Test.YtennnhfaghdeoaaOpenWords
import Derived.Test.YtennnhfaghdeoaaStreamOpen
import Derived.Test.YtennnhfaghdeoaaSlices
namespace Go.Proofs.Ytennnhfaghdeoaa
open Go.ChangeShapes Go.WideShapes Go.ChangeAt Go.RowKit

/-! Rows of accesses, and logs, that came in. -/
theorem cellsAccess : Try.prog.cellsOf 42 = 6 := by kernel_rfl
theorem cellsResult : Try.prog.cellsOf 51 = 3 := by kernel_rfl
/-- a log that came in, however long -/
structure LogP (w : World) (A : Option Addr) (n c : Nat) (rs : List Res) : Prop where
  len : rs.length = n
  cap : n ≤ maxLen
  le : n ≤ c
  nil : A = none → c = 0
  at_ : ∀ j r, rs[j]? = some r → ∃ a, A = some a ∧ ResAt w a j r
theorem LogP.log {w : World} {A : Option Addr} {n c : Nat} {rs : List Res} (h : LogP w A n c rs) (hn : n ≤ 65536) : LogV w A n c rs := ⟨h.len, hn, h.at_⟩
/-- a row of accesses that came in -/
structure AccsP (w : World) (A : Option Addr) (n c : Nat) (l : List Acc) : Prop where
  accs : AccsV w A n c l
  cap : n ≤ maxLen
  le : n ≤ c
  nil : A = none → c = 0
  ok : ∀ (j : Nat) (x : Acc), l[j]? = some x → AccOK w x ∧ x.dk ≤ maxLen ∧ x.wk ≤ maxLen
section
variable {H : Type} {enc : TypeId × Value → H} {w : World} {base : Nat}
set_option maxRecDepth 100000 in
theorem open_acc {fuel : Nat} {cs : List Value} {x : DataW H × List MemPlace} (hl : cs.length = 6) (h : DataW.trod enc Try.prog w base (fun _ => true) true fuel 42 cs = some x) :
    ∃ a : Acc, cs = a.cells.toList ∧ AccOK w a ∧ a.dk ≤ maxLen ∧ a.wk ≤ maxLen := by
  obtain ⟨x0, x1, x2, x3, x4, x5, rfl⟩ := list_six hl
  obtain ⟨k, hg⟩ := open_inner Try.underlying42 h
  obtain ⟨_, s0⟩ := hg 0 _ rfl
  obtain ⟨_, s1⟩ := hg 1 _ rfl
  obtain ⟨_, s2⟩ := hg 2 _ rfl
  obtain ⟨_, s3⟩ := hg 3 _ rfl
  obtain ⟨_, s4⟩ := hg 4 _ rfl
  obtain ⟨_, s5⟩ := hg 5 _ rfl
  obtain ⟨i0, e0, _, w0⟩ := DataW.trod_int Try.underlying3 s0
  obtain ⟨i1, e1, _, w1⟩ := DataW.trod_int Try.underlying3 s1
  obtain ⟨i2, e2, _, w2⟩ := DataW.trod_int Try.underlying26 s2
  obtain ⟨i3, e3, _, w3⟩ := DataW.trod_int Try.underlying26 s3
  obtain ⟨D, dk, dc, d, e4, hD⟩ := open_bytes s4
  obtain ⟨A, wk, wc, ws, e5, hA⟩ := open_words s5
  simp [cellsBytes, cellsIntS, cellsU64S, cellsWordsS] at e0 e1 e2 e3 e4 e5
  subst e0 e1 e2 e3 e4 e5
  exact ⟨⟨i0, i1, i2, i3, D, dk, dc, A, wk, wc⟩, rfl, ⟨⟨d, hD⟩, ⟨ws, hA⟩⟩, Nat.le_trans hD.le hD.cap, Nat.le_trans hA.le hA.cap⟩
set_option maxRecDepth 100000 in
theorem open_res {fuel : Nat} {cs : List Value} {x : DataW H × List MemPlace} (hl : cs.length = 3) (h : DataW.trod enc Try.prog w base (fun _ => true) true fuel 51 cs = some x) :
    ∃ r : Res, cs = [.int .u64 r.n, .slice r.A r.k r.c, .bool r.fail] := by
  obtain ⟨x0, x1, x2, rfl⟩ := list_three hl
  obtain ⟨k, hg⟩ := open_inner Try.underlying51 h
  obtain ⟨_, s0⟩ := hg 0 _ rfl
  obtain ⟨_, s1⟩ := hg 1 _ rfl
  obtain ⟨_, s2⟩ := hg 2 _ rfl
  obtain ⟨i0, e0, _, w0⟩ := DataW.trod_int Try.underlying26 s0
  obtain ⟨D, dk, dc, d, e1, hD⟩ := open_bytes s1
  obtain ⟨b, e2, _⟩ := DataW.trod_bool Try.underlying4 s2
  simp [cellsBytes, cellsU64S, cellsBoolS] at e0 e1 e2
  subst e0 e1 e2
  exact ⟨⟨i0, D, dk, dc, b⟩, rfl⟩
set_option maxRecDepth 100000 in
theorem open_accs {b0 : Nat} {v : Value} {d : DataW H} {p : List MemPlace} (hv : Value.okWide Try.prog w .any b0 22 v) (h : DataW.Trod enc Try.prog w base (fun _ => true) true 22 v d p) :
    ∃ A n c l, v = .slice A n c ∧ AccsP w A n c l := by
  obtain ⟨A0, n0, c0, rfl⟩ := okWide_slice Try.underlying22 hv
  obtain ⟨fuel, hf⟩ := h
  obtain ⟨A, n, c, m, e, hn, hc, hA, hi⟩ := open_slice Try.underlying22 hf
  simp [Value.cells] at e
  obtain ⟨rfl, rfl, rfl⟩ := e
  rw [cellsAccess] at hi
  obtain ⟨l, hl, hp⟩ := list_choose (n := n0) (p := fun i x => (∃ a, A0 = some a ∧ ∀ k v, x.cells[k]? = some v → w.cell? ((a.add (i * 6)).add k) = some v) ∧ AccOK w x ∧ x.dk ≤ maxLen ∧ x.wk ≤ maxLen) (fun i hlt => by
    obtain ⟨a, l, y, ha, hlen, hcell, ht⟩ := hi i hlt
    obtain ⟨x, e, hok⟩ := open_acc hlen ht
    refine ⟨x, ⟨a, ha, fun k v hk => ?_⟩, hok⟩
    rw [addr_add_add]
    refine hcell k v ?_
    rw [e]
    simpa using hk)
  exact ⟨A0, n0, c0, l, rfl, ⟨hl, fun j x hj => (hp j x hj).1⟩, Nat.le_trans hn hc, hn, hA, fun j x hj => (hp j x hj).2⟩
set_option maxRecDepth 100000 in
theorem open_log {b0 : Nat} {v : Value} {d : DataW H} {p : List MemPlace} (hv : Value.okWide Try.prog w .any b0 39 v) (h : DataW.Trod enc Try.prog w base (fun _ => true) true 39 v d p) :
    ∃ A n c rs, v = .slice A n c ∧ LogP w A n c rs := by
  obtain ⟨A0, n0, c0, rfl⟩ := okWide_slice Try.underlying39 hv
  obtain ⟨fuel, hf⟩ := h
  obtain ⟨A, n, c, m, e, hn, hc, hA, hi⟩ := open_slice Try.underlying39 hf
  simp [Value.cells] at e
  obtain ⟨rfl, rfl, rfl⟩ := e
  rw [cellsResult] at hi
  obtain ⟨l, hl, hp⟩ := list_choose (n := n0) (p := fun i r => ∃ a, A0 = some a ∧ ResAt w a i r) (fun i hlt => by
    obtain ⟨a, l, y, ha, hlen, hcell, ht⟩ := hi i hlt
    obtain ⟨r, e⟩ := open_res hlen ht
    subst e
    refine ⟨r, a, ha, ?_, ?_, ?_⟩
    · simpa using hcell 0 _ rfl
    · rw [addr_add_add]; exact hcell 1 _ rfl
    · rw [addr_add_add]; exact hcell 2 _ rfl)
  exact ⟨A0, n0, c0, l, rfl, hl, Nat.le_trans hn hc, hn, hA, hp⟩
end
end Go.Proofs.Ytennnhfaghdeoaa
