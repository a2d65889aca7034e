import Derived.Lib.SmallJoins
import Derived.ProofKit
namespace Go.Proofs.Ytennnhfaghdeoaa
open Go.Joins Go.ChangeShapes Go.WideShapes Go.RowKit

/-! A struct by value, whatever its fields: its cells, and each field's reading. -/
section
variable {H : Type} {enc : TypeId × Value → H} {P : Program} {w : World} {base : Nat} {spare : Nat → Bool} {held : Bool}
theorem open_struct {r : Reach} {b0 : Nat} {t : TypeId} {fs : Array Field} {v : Value} {d : DataW H} {p : List MemPlace} (hs : P.underlying t = some (.struct fs))
    (hv : Value.okWide P w r b0 t v) (h : DataW.Trod enc P w base spare held t v d p) :
    ∃ (l : List Value) (xs : List (DataW H × List MemPlace)) (n : Nat), v = .agg l.toArray ∧ l.length = P.cellsOf t ∧ d = .agg (xs.map (·.1)) ∧ p = xs.flatMap (·.2) ∧ xs.length = fs.size ∧
      ∀ (j : Nat) (f : Field), fs[j]? = some f → ∃ y, xs[j]? = some y ∧ DataW.trod enc P w base spare held n f.type ((l.drop f.offset).take (P.cellsOf f.type)) = some y := by
  obtain ⟨cs, rfl, hsz⟩ := okWide_struct hs hv
  obtain ⟨fuel, hf⟩ := h
  obtain ⟨xs, n, _, hx, _, hlen, hg⟩ := DataW.trod_struct hs hf
  simp only [Prod.mk.injEq] at hx
  refine ⟨cs.toList, xs, n, by simp, by simpa using hsz, hx.1, hx.2, hlen, fun j f hj => ?_⟩
  have hjl : j < xs.length := by rw [hlen]; exact (Array.getElem?_eq_some_iff.1 hj).1
  have h1 := hg j f hj
  rw [List.getElem?_eq_getElem hjl] at h1
  exact ⟨xs[j], List.getElem?_eq_getElem hjl, by simpa [Value.cells] using h1⟩
/-- a struct within cells -/
theorem open_inner {t : TypeId} {fs : Array Field} {fuel : Nat} {cs : List Value} {x : DataW H × List MemPlace} (hs : P.underlying t = some (.struct fs)) (h : DataW.trod enc P w base spare held fuel t cs = some x) :
    ∃ n, ∀ (j : Nat) (f : Field), fs[j]? = some f → ∃ y, DataW.trod enc P w base spare held n f.type ((cs.drop f.offset).take (P.cellsOf f.type)) = some y := by
  obtain ⟨xs, n, _, _, _, hlen, hg⟩ := DataW.trod_struct hs h
  refine ⟨n, fun j f hj => ?_⟩
  have hjl : j < xs.length := by rw [hlen]; exact (Array.getElem?_eq_some_iff.1 hj).1
  have h1 := hg j f hj
  rw [List.getElem?_eq_getElem hjl] at h1
  exact ⟨xs[j], h1⟩
end
theorem list_six {l : List Value} (h : l.length = 6) : ∃ a b c d e f, l = [a, b, c, d, e, f] := by
  match l, h with
  | [a, b, c, d, e, f], _ => exact ⟨a, b, c, d, e, f, rfl⟩
theorem list_five {l : List Value} (h : l.length = 5) : ∃ a b c d e, l = [a, b, c, d, e] := by
  match l, h with
  | [a, b, c, d, e], _ => exact ⟨a, b, c, d, e, rfl⟩
theorem list_two {l : List Value} (h : l.length = 2) : ∃ a b, l = [a, b] := by
  match l, h with
  | [a, b], _ => exact ⟨a, b, rfl⟩
end Go.Proofs.Ytennnhfaghdeoaa
