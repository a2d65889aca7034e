import Derived.Test.YtennnhfaghdeoaaPlayShown
import Derived.Test.YtennnhfaghdeoaaPlayOpen
namespace Go.Proofs.Ytennnhfaghdeoaa
open Go.RowKit

/-! Rows of accesses put together, and what is left of a log. -/
def accCells (l : List Acc) : List Value := l.flatMap fun x => x.cells.toList
theorem accCells_append (a b : List Acc) : accCells (a ++ b) = accCells a ++ accCells b := by simp [accCells]
theorem accCells_length (l : List Acc) : (accCells l).length = l.length * 6 := by
  induction l with
  | nil => rfl
  | cons x l ih => simp only [accCells, List.flatMap_cons, List.length_append] at ih ⊢; rw [ih]; simp [Acc.cells]; omega
theorem accCells_one (l : List Acc) : ∀ u ∈ accCells l, u.oneCell' = true := by
  intro u hu
  obtain ⟨x, _, hx⟩ := List.mem_flatMap.1 hu
  simp [Acc.cells] at hx
  rcases hx with rfl | rfl | rfl | rfl | rfl | rfl <;> rfl
theorem accCells_at {l : List Acc} {j : Nat} {x : Acc} (h : l[j]? = some x) {k : Nat} (hk : k < 6) : (accCells l)[j * 6 + k]? = x.cells[k]? := by
  rw [accCells, flat_at (fun x : Acc => x.cells.toList) 6 (fun _ => rfl) l j x h k hk]
  simp
theorem AccsV.cells {w : World} {A : Option Addr} {n c : Nat} {l : List Acc} (h : AccsV w A n c l) : Cells w A (accCells l) := fun hne => by
  have hpos : 0 < l.length := by
    rcases Nat.eq_zero_or_pos l.length with h0 | h0
    · rw [List.eq_nil_of_length_eq_zero h0] at hne; exact absurd rfl hne
    · exact h0
  obtain ⟨a, ha, -⟩ := h.at_ 0 l[0] (List.getElem?_eq_getElem _)
  refine ⟨a, ha, fun i u hu => ?_⟩
  have hi : i < l.length * 6 := by rw [← accCells_length]; exact (List.getElem?_eq_some_iff.1 hu).1
  have hj : i / 6 < l.length := by omega
  have hk : i % 6 < 6 := Nat.mod_lt _ (by omega)
  obtain ⟨b, hb, hc⟩ := h.at_ (i / 6) l[i / 6] (List.getElem?_eq_getElem _)
  obtain rfl : a = b := Option.some.inj (ha.symm.trans hb)
  have h1 := accCells_at (l := l) (List.getElem?_eq_getElem hj) hk
  rw [show i / 6 * 6 + i % 6 = i by omega, hu] at h1
  have h2 := hc (i % 6) u h1.symm
  rw [add_add3, show i / 6 * 6 + i % 6 = i by omega] at h2
  exact h2
theorem AccsV.of_cells {w : World} {A : Option Addr} {n c : Nat} {l : List Acc} (hn : l.length = n) (h : Cells w A (accCells l)) : AccsV w A n c l := by
  refine ⟨hn, fun j x hj => ?_⟩
  have h0 := accCells_at hj (k := 0) (by omega)
  have hne : accCells l ≠ [] := fun e => by
    rw [e] at h0
    simp [Acc.cells] at h0
  obtain ⟨a, ha, hc⟩ := h hne
  refine ⟨a, ha, fun k v hk => ?_⟩
  have hk6 : k < 6 := (Array.getElem?_eq_some_iff.1 hk).1
  rw [add_add3]
  exact hc _ _ ((accCells_at hj hk6).trans hk)
theorem own_formS {w : World} {base size : Nat} {e : TypeId} {v : Value} {n : Nat} {xs : List Value} (hsz : 0 < size) (h : w.ownsRow base e size v n xs) :
    ∃ A c, v = .slice A n c ∧ n ≤ c ∧ c ≤ maxLen ∧ (A = none → c = 0) ∧ Cells w A xs ∧ ∀ a, A = some a → base ≤ a.block := by
  have hlen := h.1
  rcases h.2 with ⟨rfl, rfl⟩ | ⟨g, cap, cur, rfl, hb, hh, hn, hc, hs, ht⟩
  · have : xs = [] := List.eq_nil_of_length_eq_zero (by simpa using hlen)
    subst this
    exact ⟨none, 0, rfl, Nat.le_refl _, Nat.zero_le _, fun _ => rfl, Cells.nil _ _, fun a ha => by cases ha⟩
  · refine ⟨_, cap, rfl, hn, hc, (by intro h; cases h), fun _ => ⟨_, rfl, h.cells (g := g) rfl⟩, fun a ha => ?_⟩
    injection ha with ha
    subst ha
    exact hb
theorem info_access : (Try.prog.info? 42).map (fun i => (i.zero, i.size, i.bytes)) = some (some (.agg accZero), 6, 80) := by kernel_rfl
theorem info_result : (Try.prog.info? 51).map (fun i => (i.zero, i.size, i.bytes)) = some (some (.agg #[.int .u64 0, .slice none 0 0, .bool false]), 3, 40) := by kernel_rfl
theorem ownsRow_start {w W : World} {e : TypeId} {size : Nat} {g : Nat} (hg : W.heap[g]? = some (.cells #[] e (0, 0))) (hb : w.heap.size ≤ g) : W.ownsRow w.heap.size e size (.slice (some ⟨g, 0, none⟩) 0 0) 0 [] :=
  ⟨by simp, .inr ⟨g, 0, #[], rfl, hb, hg, Nat.le_refl _, Nat.zero_le _, by simp, by simp⟩⟩
theorem run_slice_from {P : Program} (t e : TypeId) (i : TypeInfo) (size : Nat) (ht : P.underlying t = some (.slice e)) (hi : P.info? e = some i) (hs : i.size = size) (A : Option Addr) (n c l : Nat) (hl : l ≤ n) (hc : n ≤ c) (w : World) :
    (Instr.slice t (.slice A n c) (some (.int .i64 (l : Int))) none none).run P w = .ok (.slice (if c = l then A else A.map (·.add (l * size))) (n - l) (c - l)) w := by
  subst hs
  have h1 : l ≤ c := Nat.le_trans hl hc
  simp [Instr.slice, run_underlying ht, Instr.sliceBounds, Instr.sliceBound, asIntOf, sizeOf, typeInfo, hi, hl, hc, h1]
/-- what is left of a log -/
theorem LogV.drop {w : World} {A : Option Addr} {n c : Nat} {rs : List Res} (h : LogV w A n c rs) {l : Nat} (hl : l ≤ n) (hc : n ≤ c) : LogV w (if c = l then A else A.map (·.add (l * 3))) (n - l) (c - l) (rs.drop l) := by
  refine ⟨by rw [List.length_drop, h.len], Nat.le_trans (Nat.sub_le _ _) h.small, fun j r hj => ?_⟩
  rw [List.getElem?_drop] at hj
  have hlt := (List.getElem?_eq_some_iff.1 hj).1
  have hlen := h.len
  obtain ⟨a, rfl, h1, h2, h3⟩ := h.at_ _ r hj
  rw [if_neg (by omega)]
  refine ⟨a.add (l * 3), rfl, ?_⟩
  have e : (a.add (l * 3)).add (j * 3) = a.add ((l + j) * 3) := by rw [add_add3, ← Nat.add_mul]
  exact ⟨by rw [e]; exact h1, by rw [e]; exact h2, by rw [e]; exact h3⟩
/-- sums -/
theorem lineSum_drop (rs : List Res) (a b : Nat) : IntKind.u64.wrap (lineSum rs a + lineSum (rs.drop a) b) = lineSum rs (a + b) := by
  have h : rs.take (a + b) = rs.take a ++ (rs.drop a).take b := by rw [List.take_add]
  simp only [lineSum, h, sumN_append, IntKind.wrap_u64]
  omega
end Go.Proofs.Ytennnhfaghdeoaa
