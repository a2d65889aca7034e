import Derived.Test.YtennnhfaghdeoaaMem
import Derived.Laws.MakeOwn
namespace Go.Proofs.Ytennnhfaghdeoaa
open Go.RowKit

/-! Slices of words. -/
def wordsOf (l : List Int) : List Value := l.map (Value.int .u64)
theorem wordsOf_length (l : List Int) : (wordsOf l).length = l.length := by simp [wordsOf]
theorem wordsOf_append (a b : List Int) : wordsOf (a ++ b) = wordsOf a ++ wordsOf b := by simp [wordsOf]
theorem wordsOf_one (l : List Int) : ∀ u ∈ wordsOf l, u.oneCell' = true := by
  intro u hu
  obtain ⟨b, _, rfl⟩ := List.mem_map.1 hu
  rfl
structure WordsV (w : World) (A : Option Addr) (n c : Nat) (l : List Int) : Prop where
  len : l.length = n
  le : n ≤ c
  cap : c ≤ maxLen
  nil : A = none → c = 0
  cells : Cells w A (wordsOf l)
  rng : ∀ z ∈ l, 0 ≤ z ∧ z < 18446744073709551616
theorem WordsV.ext {w w' : World} {A : Option Addr} {n c : Nat} {l : List Int} (h : WordsV w A n c l) (hx : Ext w w') : WordsV w' A n c l := ⟨h.len, h.le, h.cap, h.nil, h.cells.ext hx, h.rng⟩
theorem WordsV.none0 {w : World} {A : Option Addr} {n c : Nat} {l : List Int} (h : WordsV w A n c l) : A = none → c = 0 ∧ n = 0 := fun e => by
  have := h.nil e; have := h.le; omega
theorem WordsV.at {w : World} {A : Option Addr} {n c : Nat} {l : List Int} (h : WordsV w A n c l) {i : Nat} (hi : i < n) : ∃ a, A = some a ∧ w.cell? (a.add i) = some (.int .u64 (l.getD i 0)) ∧ 0 ≤ l.getD i 0 ∧ l.getD i 0 < 18446744073709551616 := by
  have hl : i < l.length := by rw [h.len]; exact hi
  have hne : wordsOf l ≠ [] := fun e => by rw [← wordsOf_length, e] at hl; simp at hl
  obtain ⟨a, ha, hc⟩ := h.cells hne
  have h1 : l.getD i 0 = l[i] := by simp [List.getD, hl]
  rw [h1]
  exact ⟨a, ha, hc i _ (by simp [wordsOf, hl]), h.rng _ (List.getElem_mem hl)⟩
theorem words_nil (W : World) : WordsV W none 0 0 [] := ⟨rfl, Nat.le_refl _, Nat.zero_le _, fun _ => rfl, Cells.nil _ _, fun z h => by cases h⟩
/-- a row of words of the call's own -/
def WordsAt (w : World) (g L : Nat) (f : Nat → Int) : Prop := ∀ i, i < L → w.cell? ⟨g, i, none⟩ = some (.int .u64 (f i)) ∧ w.frozen? ⟨g, i, none⟩ = false
theorem WordsAt.congr {w : World} {g L : Nat} {f f' : Nat → Int} (h : WordsAt w g L f) (hf : ∀ i, i < L → f i = f' i) : WordsAt w g L f' := fun i hi => by rw [← hf i hi]; exact h i hi
theorem WordsAt.ext {w w' : World} {g L : Nat} {f : Nat → Int} (h : WordsAt w g L f) (hx : Ext w w') : WordsAt w' g L f := fun i hi =>
  ⟨hx.cell (h i hi).1, by rw [hx.frozen (lt_of_cell (h i hi).1)]; exact (h i hi).2⟩
theorem frozen_setCell (w : World) (p q : Addr) (u : Value) : (w.setCell p u).frozen? q = w.frozen? q := by
  simp only [World.frozen?, World.setCell, Array.getElem?_modify]
  by_cases h : p.block = q.block
  · rw [if_pos h]
    cases h' : w.heap[q.block]? with
    | none => rfl
    | some o => cases o <;> rfl
  · rw [if_neg h]
theorem WordsAt.set {w : World} {g L : Nat} {f : Nat → Int} (h : WordsAt w g L f) {j : Nat} (hj : j < L) (v : Int) : WordsAt (w.setCell ⟨g, j, none⟩ (.int .u64 v)) g L (fun i => if i = j then v else f i) := fun i hi => by
  refine ⟨?_, by rw [frozen_setCell]; exact (h i hi).2⟩
  show (w.setCell ⟨g, j, none⟩ (.int .u64 v)).cell? ⟨g, i, none⟩ = some (.int .u64 (if i = j then v else f i))
  by_cases hij : i = j
  · subst hij
    rw [if_pos rfl]
    exact World.cell?_setCell_same w _ _ (h i hi).1
  · rw [if_neg hij, World.cell?_setCell_other w _ _ _ (fun e => hij (by injection e with _ e; exact e.symm))]
    exact (h i hi).1
theorem WordsAt.other {w : World} {g L : Nat} {f : Nat → Int} (h : WordsAt w g L f) {p : Addr} (hp : p.block ≠ g) (u : Value) : WordsAt (w.setCell p u) g L f := fun i hi => by
  refine ⟨?_, by rw [frozen_setCell]; exact (h i hi).2⟩
  rw [World.cell?_setCell_other w _ _ _ (fun e => hp (by rw [e]))]
  exact (h i hi).1
theorem WordsAt.v {w : World} {g L : Nat} {f : Nat → Int} (h : WordsAt w g L f) (hL : L ≤ maxLen) (hr : ∀ i, i < L → 0 ≤ f i ∧ f i < 18446744073709551616) : WordsV w (some ⟨g, 0, none⟩) L L ((List.range L).map f) := by
  refine ⟨by simp, Nat.le_refl _, hL, (by intro h; cases h), fun _ => ⟨_, rfl, fun j u hu => ?_⟩, fun z hz => ?_⟩
  · simp only [wordsOf, List.map_map, List.getElem?_map] at hu
    obtain ⟨i, hi, rfl⟩ := Option.map_eq_some_iff.1 hu
    obtain ⟨h1, h2⟩ := List.getElem?_eq_some_iff.1 hi
    have hjL : j < L := by simpa using h1
    have : i = j := by rw [← h2]; simp
    subst this
    have h2 : (⟨g, 0, none⟩ : Addr).add i = ⟨g, i, none⟩ := by unfold Addr.add; split <;> simp_all
    rw [h2]
    exact (h i hjL).1
  · obtain ⟨i, hi, rfl⟩ := List.mem_map.1 hz
    exact hr i (List.mem_range.1 hi)
theorem WordsAt.made {w : World} {g L : Nat} {C : Array Value} {e : TypeId} (hg : w.heap[g]? = some (.cells C e (0, 0))) (hC : C = madeCells #[.int .u64 0] L) : WordsAt w g L (fun _ => 0) := fun i hi => by
  subst hC
  constructor
  · simp [World.cell?, hg, madeCells, hi, Nat.mod_one]
  · simp [World.frozen?, hg]
/-- what a memory's making has in hand: the result's place, the row, the memory's box -/
structure NewI (T : TypeId) (w : World) (L : Nat) (t c : Int) (f : Nat → Int) (wr : World) : Prop where
  ext : Ext w wr
  row : WordsAt wr (w.heap.size + 1) L f
  res : wr.heap[w.heap.size]? = some (.cells #[.int .i64 0, .int .i64 0, .slice none 0 0] T (0, 0))
  box : wr.heap[w.heap.size + 1 + 1]? = some (.cells #[.int .i64 t, .int .i64 c, .slice (some ⟨w.heap.size + 1, 0, none⟩) L L] T (0, 0))
theorem NewI.on {T : TypeId} {w : World} {L : Nat} {t c : Int} {f : Nat → Int} {wr wx : World} (h : NewI T w L t c f wr) (hx : Ext wr wx) : NewI T w L t c f wx :=
  ⟨h.ext.trans hx, h.row.ext hx, by rw [Below.block hx _ (Array.getElem?_eq_some_iff.1 h.res).1]; exact h.res, by rw [Below.block hx _ (Array.getElem?_eq_some_iff.1 h.box).1]; exact h.box⟩
theorem NewI.set {T : TypeId} {w : World} {L : Nat} {t c : Int} {f : Nat → Int} {wr : World} (h : NewI T w L t c f wr) {j : Nat} (hj : j < L) (v : Int) : NewI T w L t c (fun i => if i = j then v else f i) (wr.setCell ⟨w.heap.size + 1, j, none⟩ (.int .u64 v)) :=
  ⟨Below.setCell h.ext (by simp) _, h.row.set hj v, by rw [Below.heap_setCell _ _ _ _ (by simp)]; exact h.res, by rw [Below.heap_setCell _ _ _ _ (by simp)]; exact h.box⟩
theorem NewI.congr {T : TypeId} {w : World} {L : Nat} {t c : Int} {f f' : Nat → Int} {wr : World} (h : NewI T w L t c f wr) (hf : ∀ i, i < L → f i = f' i) : NewI T w L t c f' wr := ⟨h.ext, h.row.congr hf, h.res, h.box⟩
theorem NewI.cells {T : TypeId} {w : World} {L : Nat} {t c : Int} {f : Nat → Int} {wr : World} (h : NewI T w L t c f wr) :
    wr.cell? ⟨w.heap.size + 1 + 1, 0, none⟩ = some (.int .i64 t) ∧ wr.cell? ⟨w.heap.size + 1 + 1, 1, none⟩ = some (.int .i64 c) ∧ wr.cell? ⟨w.heap.size + 1 + 1, 2, none⟩ = some (.slice (some ⟨w.heap.size + 1, 0, none⟩) L L) := by
  simp [World.cell?, h.box]
theorem NewI.out {T : TypeId} {w : World} {L : Nat} {t c : Int} {f : Nat → Int} {wr : World} (h : NewI T w L t c f wr) :
    wr.cell? ⟨w.heap.size, 0, none⟩ = some (.int .i64 0) ∧ wr.cell? ⟨w.heap.size, 1, none⟩ = some (.int .i64 0) ∧ wr.cell? ⟨w.heap.size, 2, none⟩ = some (.slice none 0 0) ∧
      wr.frozen? ⟨w.heap.size, 0, none⟩ = false ∧ wr.frozen? ⟨w.heap.size, 1, none⟩ = false ∧ wr.frozen? ⟨w.heap.size, 2, none⟩ = false := by
  simp [World.cell?, World.frozen?, h.res]
theorem NewI.at {T : TypeId} {w : World} {L : Nat} {t c : Int} {f : Nat → Int} {wr : World} (h : NewI T w L t c f wr) {j : Nat} (hj : j < L) :
    wr.cell? ⟨w.heap.size + 1, j, none⟩ = some (.int .u64 (f j)) ∧ wr.frozen? ⟨w.heap.size + 1, j, none⟩ = false := h.row j hj
end Go.Proofs.Ytennnhfaghdeoaa
