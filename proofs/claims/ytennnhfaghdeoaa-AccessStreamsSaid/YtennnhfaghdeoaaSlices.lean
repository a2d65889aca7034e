import Derived.Test.YtennnhfaghdeoaaMem
import Derived.ProofKit
import Derived.ChangeArms
namespace Go.Proofs.Ytennnhfaghdeoaa
open Go.ChangeShapes Go.WideShapes Go.ChangeAt Go.RowKit

/-! Slices that came in, whatever their elements. -/
theorem list_choose {α : Type} {p : Nat → α → Prop} : ∀ {n : Nat}, (∀ i, i < n → ∃ x, p i x) → ∃ l : List α, l.length = n ∧ ∀ i x, l[i]? = some x → p i x
  | 0, _ => ⟨[], rfl, fun i x h => by simp at h⟩
  | n + 1, h => by
    obtain ⟨l, hl, hp⟩ := list_choose (n := n) (fun i hi => h i (by omega))
    obtain ⟨x, hx⟩ := h n (by omega)
    refine ⟨l ++ [x], by simp [hl], fun i y hi => ?_⟩
    rcases Nat.lt_or_ge i n with h' | h'
    · rw [List.getElem?_append_left (by omega)] at hi
      exact hp i y hi
    · have hi' : i < (l ++ [x]).length := (List.getElem?_eq_some_iff.1 hi).1
      have : i = n := by simp [hl] at hi'; omega
      subst this
      rw [List.getElem?_append_right (by omega), hl] at hi
      simp at hi
      subst hi
      exact hx
theorem addr_add_add (a : Addr) (i j : Nat) : (a.add i).add j = a.add (i + j) := by
  unfold Addr.add
  by_cases hi : i = 0
  · subst hi; simp
  · by_cases hj : j = 0
    · subst hj; simp [hi]
    · simp [hi, hj]; omega
theorem heap_setCell_at {w : World} {g i : Nat} {u : Value} {c : Array Value} {T : TypeId} {fr : Nat × Nat} (h : w.heap[g]? = some (.cells c T fr)) : (w.setCell ⟨g, i, none⟩ u).heap[g]? = some (.cells (c.setIfInBounds i u) T fr) := by
  simp [World.setCell, Array.getElem?_modify, h]
theorem heap_ext {w w' : World} {g : Nat} {o : Obj} (h : w.heap[g]? = some o) (hx : Ext w w') : w'.heap[g]? = some o := by
  rw [Below.block hx g (Array.getElem?_eq_some_iff.1 h).1]; exact h
/-- a row of cells stored, one behind the other -/
def setAll (g : Nat) : Nat → List Value → World → World
  | _, [], w => w
  | i, v :: vs, w => setAll g (i + 1) vs (w.setCell ⟨g, i, none⟩ v)
theorem setAll_other {g k : Nat} (hk : k ≠ g) : ∀ (vs : List Value) (i : Nat) (w : World), (setAll g i vs w).heap[k]? = w.heap[k]?
  | [], _, _ => rfl
  | v :: vs, i, w => by rw [setAll, setAll_other hk vs (i + 1), Below.heap_setCell _ _ _ _ hk]
theorem setAll_size {g : Nat} : ∀ (vs : List Value) (i : Nat) (w : World), (setAll g i vs w).heap.size = w.heap.size
  | [], _, _ => rfl
  | v :: vs, i, w => by rw [setAll, setAll_size vs (i + 1)]; simp [World.setCell]
theorem setAll_rest {g : Nat} : ∀ (vs : List Value) (i : Nat) (w : World), (setAll g i vs w).os = w.os ∧ (setAll g i vs w).tape = w.tape ∧ (setAll g i vs w).output = w.output
  | [], _, _ => ⟨rfl, rfl, rfl⟩
  | v :: vs, i, w => by rw [setAll]; exact setAll_rest vs (i + 1) _
theorem setAll_same {g : Nat} {T : TypeId} {fr : Nat × Nat} : ∀ (vs : List Value) (done old : List Value) (w : World), w.heap[g]? = some (.cells (done ++ old).toArray T fr) → old.length = vs.length →
    (setAll g done.length vs w).heap[g]? = some (.cells (done ++ vs).toArray T fr)
  | [], done, old, w, h, hl => by
    have : old = [] := List.eq_nil_of_length_eq_zero (by simpa using hl)
    subst this
    exact h
  | v :: vs, done, old, w, h, hl => by
    match old, hl with
    | o :: old, hl =>
      have h1 := heap_setCell_at (i := done.length) (u := v) h
      have h2 : (done ++ o :: old).toArray.setIfInBounds done.length v = ((done ++ [v]) ++ old).toArray := by simp
      rw [h2] at h1
      have := setAll_same vs (done ++ [v]) old (w.setCell ⟨g, done.length, none⟩ v) h1 (by simpa using hl)
      rw [setAll]
      simpa using this
theorem setAll_all {g : Nat} {T : TypeId} {fr : Nat × Nat} {vs old : List Value} {w : World} (h : w.heap[g]? = some (.cells old.toArray T fr)) (hl : old.length = vs.length) : (setAll g 0 vs w).heap[g]? = some (.cells vs.toArray T fr) := by
  simpa using setAll_same vs [] old w (by simpa using h) hl
theorem setAll_ext {g : Nat} {w0 : World} {vs : List Value} {i : Nat} {w : World} (h : Ext w0 w) (hg : w0.heap.size ≤ g) : Ext w0 (setAll g i vs w) := by
  induction vs generalizing i w with
  | nil => exact h
  | cons v vs ih => rw [setAll]; exact ih (Below.setCell h hg _)
section
variable {H : Type} {enc : TypeId × Value → H} {P : Program} {w : World} {base : Nat} {spare : Nat → Bool} {held : Bool}
theorem open_slice {t e : TypeId} {fuel : Nat} {cs : List Value} {x : DataW H × List MemPlace} (ht : P.underlying t = some (.slice e)) (h : DataW.trod enc P w base spare held fuel t cs = some x) :
    ∃ (A : Option Addr) (n c m : Nat), cs = [.slice A n c] ∧ n ≤ c ∧ c ≤ maxLen ∧ (A = none → c = 0) ∧
      ∀ i, i < n → ∃ a l y, A = some a ∧ l.length = P.cellsOf e ∧ (∀ j u, l[j]? = some u → w.cell? (a.add (i * P.cellsOf e + j)) = some u) ∧ DataW.trod enc P w base spare held m e l = some y := by
  rcases DataW.trod_slice ht h with ⟨rfl, _⟩ | ⟨a, len, cap, elems, rest, n, _, rfl, _, hb, hl, hm, hlen, hel, _, _⟩
  · exact ⟨none, 0, 0, 0, rfl, Nat.le_refl _, Nat.zero_le _, fun _ => rfl, fun i hi => by omega⟩
  · refine ⟨some a, len, cap, n, rfl, hl, hm, (by intro h; cases h), fun i hi => ?_⟩
    have h1 := hel i hi
    rw [List.getElem?_eq_getElem (by omega)] at h1
    obtain ⟨cs', hcs, hy⟩ := Option.bind_eq_some_iff.1 h1
    have h2 := World.cells?_some hcs
    refine ⟨a, cs', elems[i]'(by omega), rfl, h2.2.1, fun j u hu => ?_, hy⟩
    have hj : j < cs'.length := (List.getElem?_eq_some_iff.1 hu).1
    have := h2.2.2 j (by rw [← h2.2.1]; exact hj)
    rw [addr_add_add] at this
    rw [this]
    exact hu
end
end Go.Proofs.Ytennnhfaghdeoaa
