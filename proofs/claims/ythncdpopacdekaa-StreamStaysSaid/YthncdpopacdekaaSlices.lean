import Derived.Test.YthncdpopacdekaaMem
import Derived.ProofKit
import Derived.ChangeArms
namespace Go.Proofs.Ythncdpopacdekaa
open Go.ChangeShapes Go.WideShapes Go.ChangeAt Go.RowKit

/-! Slices that came in, whatever their elements. -/
theorem list_choose {α : Type} {p : Nat → α → Prop} : ∀ {n : Nat}, (∀ i, i < n → ∃ x, p i x) → ∃ l : List α, l.length = n ∧ ∀ i x, l[i]? = some x → p i x
  | 0, _ => ⟨[], rfl, fun i x h => by simp at h⟩
  | n + 1, h => by
    obtain ⟨l, hl, hp⟩ := list_choose (n := n) (fun i hi => h i (by omega))
    obtain ⟨x, hx⟩ := h n (by omega)
    refine ⟨l ++ [x], by simp [hl], fun i y hi => ?_⟩
    rcases Nat.lt_or_ge i n with h' | h'
    · rw [List.getElem?_append_left (by omega)] at hi
      exact hp i y hi
    · have hi' : i < (l ++ [x]).length := (List.getElem?_eq_some_iff.1 hi).1
      have : i = n := by simp [hl] at hi'; omega
      subst this
      rw [List.getElem?_append_right (by omega), hl] at hi
      simp at hi
      subst hi
      exact hx
theorem addr_add_add (a : Addr) (i j : Nat) : (a.add i).add j = a.add (i + j) := by
  unfold Addr.add
  by_cases hi : i = 0
  · subst hi; simp
  · by_cases hj : j = 0
    · subst hj; simp [hi]
    · simp [hi, hj]; omega
theorem heap_setCell_at {w : World} {g i : Nat} {u : Value} {c : Array Value} {T : TypeId} {fr : Nat × Nat} (h : w.heap[g]? = some (.cells c T fr)) : (w.setCell ⟨g, i, none⟩ u).heap[g]? = some (.cells (c.setIfInBounds i u) T fr) := by
  simp [World.setCell, Array.getElem?_modify, h]
theorem heap_ext {w w' : World} {g : Nat} {o : Obj} (h : w.heap[g]? = some o) (hx : Ext w w') : w'.heap[g]? = some o := by
  rw [Below.block hx g (Array.getElem?_eq_some_iff.1 h).1]; exact h
section
variable {H : Type} {enc : TypeId × Value → H} {P : Program} {w : World} {base : Nat} {spare : Nat → Bool} {held : Bool}
theorem open_slice {t e : TypeId} {fuel : Nat} {cs : List Value} {x : DataW H × List MemPlace} (ht : P.underlying t = some (.slice e)) (h : DataW.trod enc P w base spare held fuel t cs = some x) :
    ∃ (A : Option Addr) (n c m : Nat), cs = [.slice A n c] ∧ n ≤ c ∧ c ≤ maxLen ∧ (A = none → c = 0) ∧
      ∀ i, i < n → ∃ a l y, A = some a ∧ l.length = P.cellsOf e ∧ (∀ j u, l[j]? = some u → w.cell? (a.add (i * P.cellsOf e + j)) = some u) ∧ DataW.trod enc P w base spare held m e l = some y := by
  rcases DataW.trod_slice ht h with ⟨rfl, _⟩ | ⟨a, len, cap, elems, rest, n, _, rfl, _, hb, hl, hm, hlen, hel, _, _⟩
  · exact ⟨none, 0, 0, 0, rfl, Nat.le_refl _, Nat.zero_le _, fun _ => rfl, fun i hi => by omega⟩
  · refine ⟨some a, len, cap, n, rfl, hl, hm, (by intro h; cases h), fun i hi => ?_⟩
    have h1 := hel i hi
    rw [List.getElem?_eq_getElem (by omega)] at h1
    obtain ⟨cs', hcs, hy⟩ := Option.bind_eq_some_iff.1 h1
    have h2 := World.cells?_some hcs
    refine ⟨a, cs', elems[i]'(by omega), rfl, h2.2.1, fun j u hu => ?_, hy⟩
    have hj : j < cs'.length := (List.getElem?_eq_some_iff.1 hu).1
    have := h2.2.2 j (by rw [← h2.2.1]; exact hj)
    rw [addr_add_add] at this
    rw [this]
    exact hu
end
end Go.Proofs.Ythncdpopacdekaa
