import Derived.Test.YtennnhfaghdeoaaAccNew
namespace Go.Proofs.Ytennnhfaghdeoaa
open Go.RowKit

/-! Worlds told by keys: right or not; what stands in their rows. -/
def allR (K : List Key) : Bool := K.all fun k => rightB k.2 k.1.length
def rightX (X : WldK) : Bool := rightM X.T X.C X.ws.length && ((decide (1 ≤ X.n ∧ X.n ≤ 64) && (allR X.K0 && allR X.K1)) && ((X.n : Int) == X.T))
theorem all_keys {w : World} {A : Option Addr} {n c : Nat} {l : List St} (h : RowV w A n c l) : l.all St.right = allR (l.map St.key) := by
  unfold allR
  rw [List.all_map, Bool.eq_iff_iff, List.all_eq_true, List.all_eq_true]
  constructor
  · intro hx s hs
    have h1 := hx s hs
    have h2 : s.d.length = s.q := (h.ok s hs).len
    simp only [Function.comp_apply, St.key, h2]
    exact h1
  · intro hx s hs
    have h1 := hx s hs
    have h2 : s.d.length = s.q := (h.ok s hs).len
    simp only [Function.comp_apply, St.key, h2] at h1
    exact h1
theorem rightW_X {w : World} {T C : Int} {A0 A1 : Option Addr} {ws : List Int} {R : Int} {n c0 c1 : Nat} {l0 l1 : List St} (h0 : RowV w A0 n c0 l0) (h1 : RowV w A1 n c1 l1) : rightW T C ws.length n n l0 l1 = rightX ⟨T, C, ws, R, n, l0.map St.key, l1.map St.key⟩ := by
  simp only [rightW, rightX, rightD, List.all_append, all_keys h0, all_keys h1, and_true]
theorem DkK.rows {w : World} {R : Int} {A0 A1 : Option Addr} {n c0 c1 : Nat} {K0 K1 : List Key} (h : DkK w (.agg #[.int .u64 R, .slice A0 n c0, .slice A1 n c1]) R n K0 K1) : ∃ l0 l1, RowV w A0 n c0 l0 ∧ RowV w A1 n c1 l1 ∧ l0.map St.key = K0 ∧ l1.map St.key = K1 := by
  obtain ⟨l0, l1, ⟨A0', A1', c0', c1', e, h0, h1⟩, h2, h3⟩ := h
  simp only [Value.agg.injEq, Array.mk.injEq, List.cons.injEq, Value.slice.injEq, and_true, true_and] at e
  obtain ⟨⟨rfl, rfl⟩, rfl, rfl⟩ := e
  exact ⟨l0, l1, h0, h1, h2, h3⟩
theorem key_at {w : World} {A : Option Addr} {n c : Nat} {l : List St} (h : RowV w A n c l) {j : Nat} {d : List UInt8} {k : Int} (hj : (l.map St.key)[j]? = some (d, k)) :
    ∃ a D cd, A = some a ∧ w.cell? (a.add (j * 2)) = some (.slice D d.length cd) ∧ BytesV w D d.length cd d := by
  rw [List.getElem?_map] at hj
  obtain ⟨s, hs, he⟩ := Option.map_eq_some_iff.1 hj
  obtain ⟨a, ha, h1, -, h3⟩ := h.at hs
  have hd : s.d = d := (Prod.mk.inj he).1
  have hl : s.d.length = s.q := h3.len
  subst hd
  rw [← hl] at h1
  have h3' : BytesV w s.D s.q s.cd s.d := h3
  rw [← hl] at h3'
  exact ⟨a, s.D, s.cd, ha, h1, h3'⟩
theorem accright_K {v : Value} {X : WldK} {w : World} (h : WldV w v X) :
    Calls Try.prog 35 #[v] w fun e w' => e = .returned (.bool (rightX X)) ∧ Ext w w' := by
  obtain ⟨T, C, ws, R, n, K0, K1⟩ := X
  obtain ⟨A, q, c, A0, A1, c0, c1, rfl, hw, hd⟩ := h
  obtain ⟨l0, l1, h0, h1, rfl, rfl⟩ := hd.rows
  simp only at *
  rw [← rightW_X h0 h1, hw.len]
  exact accright_any T C A q c R A0 A1 n c0 n c1 l0 l1 w h0 h1
end Go.Proofs.Ytennnhfaghdeoaa
