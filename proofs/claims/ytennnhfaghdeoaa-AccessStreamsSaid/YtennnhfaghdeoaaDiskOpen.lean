import Derived.Test.YtennnhfaghdeoaaDiskSame
import Derived.Test.YtennnhfaghdeoaaDiskKey
import Derived.Test.YtennnhfaghdeoaaLift
import Derived.Test.YtennnhfaghdeoaaStreamOpen
namespace Go.Proofs.Ytennnhfaghdeoaa
open Go.ChangeShapes Go.WideShapes Go.ChangeAt Go.RowKit

/-! Disks that came in. -/
theorem cellsU8E : Try.prog.cellsOf 5 = 1 := by kernel_rfl
theorem cellsU64E : Try.prog.cellsOf 26 = 1 := by kernel_rfl
theorem cellsRowE : Try.prog.cellsOf 27 = 1 := by kernel_rfl
theorem cellsRowsE : Try.prog.cellsOf 28 = 2 := by kernel_rfl
theorem cellsDiskE : Try.prog.cellsOf 30 = 3 := by kernel_rfl
section
variable {H : Type} {enc : TypeId × Value → H} {w : World} {base : Nat}
set_option maxRecDepth 100000 in
theorem open_row {fuel : Nat} {cs : List Value} {x : DataW H × List MemPlace} (h : DataW.trod enc Try.prog w base (fun _ => true) true fuel 27 cs = some x) :
    ∃ A n c l, cs = [.slice A n c] ∧ RowV w A n c l := by
  obtain ⟨A, n, c, m, e, hn, hc, hA, hi⟩ := open_slice Try.underlying27 h
  rw [cellsStream] at hi
  obtain ⟨l, hl, hp⟩ := list_choose (n := n) (p := fun i (s : St) => (∃ a, A = some a ∧ w.cell? (a.add (i * 2)) = some (.slice s.D s.q s.cd) ∧ w.cell? (a.add (i * 2 + 1)) = some (.int .i64 s.k)) ∧ StOK w s) (fun i hlt => by
    obtain ⟨a, l, y, ha, hlen, hcell, ht⟩ := hi i hlt
    obtain ⟨x0, x1, rfl⟩ := list_two hlen
    obtain ⟨k, hg⟩ := open_inner Try.underlying90 ht
    obtain ⟨_, s0⟩ := hg 0 _ rfl
    obtain ⟨_, s1⟩ := hg 1 _ rfl
    obtain ⟨D, q, cd, d, e0, hD⟩ := open_bytes s0
    obtain ⟨z, e1, _, w1⟩ := DataW.trod_int Try.underlying3 s1
    simp [cellsBytes, cellsIntS] at e0 e1
    subst e0 e1
    exact ⟨⟨D, q, cd, z, d⟩, ⟨a, ha, by simpa using hcell 0 _ rfl, by simpa using hcell 1 _ rfl⟩, hD⟩)
  refine ⟨A, n, c, l, e, hl, hn, hc, hA, ?_, fun s hs => ?_⟩
  · intro hne
    have hpos : 0 < l.length := by
      rcases Nat.eq_zero_or_pos l.length with h0 | h0
      · rw [List.eq_nil_of_length_eq_zero h0] at hne; exact absurd rfl hne
      · exact h0
    obtain ⟨⟨a, ha, -⟩, -⟩ := hp 0 l[0] (List.getElem?_eq_getElem _)
    refine ⟨a, ha, fun i u hu => ?_⟩
    have hil : i < l.length * 2 := by rw [← rowCells_length]; exact (List.getElem?_eq_some_iff.1 hu).1
    have hj : i / 2 < l.length := by omega
    obtain ⟨⟨b, hb, b0, b1⟩, -⟩ := hp (i / 2) l[i / 2] (List.getElem?_eq_getElem _)
    obtain rfl : a = b := Option.some.inj (ha.symm.trans hb)
    obtain ⟨r0, r1⟩ := rowCells_at (List.getElem?_eq_getElem hj)
    rcases Nat.mod_two_eq_zero_or_one i with hm | hm
    · have ei : i / 2 * 2 = i := by omega
      rw [ei] at r0 b0
      rw [r0] at hu
      cases hu
      exact b0
    · have ei : i / 2 * 2 + 1 = i := by omega
      rw [ei] at r1 b1
      rw [r1] at hu
      cases hu
      exact b1
  · obtain ⟨i, hi'⟩ := List.getElem?_of_mem hs
    exact (hp i s hi').2
set_option maxRecDepth 100000 in
theorem open_intsv7 {fuel : Nat} {cs : List Value} {x : DataW H × List MemPlace} (h : DataW.trod enc Try.prog w base (fun _ => true) true fuel 44 cs = some x) :
    ∃ A n c ms, cs = [.slice A n c] ∧ IntsV w A n c ms := by
  rcases open_ints Try.underlying44 Try.underlying3 cellsIntS h with ⟨hcs, hx⟩ | ⟨a, len, cap, zs, hcs, hb, hl, hm, hz, hx, hcell, hwz⟩
  · exact ⟨none, 0, 0, [], hcs, ints_nil w⟩
  · have hzl : zs.length = cap := by simpa using hz
    refine ⟨some a, len, cap, zs.take len, hcs, by rw [List.length_take]; omega, hl, fun j z hj => ⟨a, rfl, ?_⟩⟩
    rw [List.getElem?_take] at hj
    split at hj
    · rw [hcell j (by omega)]
      simp [List.getD, hj]
    · cases hj
set_option maxRecDepth 100000 in
theorem open_disk {fuel : Nat} {cs : List Value} {x : DataW H × List MemPlace} (hl : cs.length = 3) (h : DataW.trod enc Try.prog w base (fun _ => true) true fuel 30 cs = some x) :
    ∃ (R : Int) (A0 A1 : Option Addr) (n0 c0 n1 c1 : Nat) (l0 l1 : List St), cs = [.int .u64 R, .slice A0 n0 c0, .slice A1 n1 c1] ∧ RowV w A0 n0 c0 l0 ∧ RowV w A1 n1 c1 l1 ∧ (0 ≤ R ∧ R < 18446744073709551616) := by
  match cs, hl with
  | [x0, x1, x2], _ =>
  obtain ⟨k, hg⟩ := open_inner Try.underlying30 h
  obtain ⟨_, s0⟩ := hg 0 _ rfl
  obtain ⟨_, s1⟩ := hg 1 _ rfl
  obtain ⟨R, e0, _, w0⟩ := DataW.trod_int Try.underlying26 s0
  obtain ⟨ys, m, _, _, _, hlen, hi⟩ := DataW.trod_array Try.underlying28 s1
  have t0 := hi 0 (by omega)
  have t1 := hi 1 (by omega)
  rw [List.getElem?_eq_getElem (by omega)] at t0 t1
  obtain ⟨A0, n0, c0, l0, e1, h0⟩ := open_row t0
  obtain ⟨A1, n1, c1, l1, e2, h1⟩ := open_row t1
  simp [cellsU64E, cellsRowE, cellsRowsE] at e0 e1 e2
  subst e0 e1 e2
  exact ⟨R, A0, A1, n0, c0, n1, c1, l0, l1, rfl, h0, h1, wf_u64 w0⟩
end
end Go.Proofs.Ytennnhfaghdeoaa
