import Derived.Test.YtennnhfaghdeoaaStream
import Derived.Test.YtennnhfaghdeoaaLift
import Derived.Test.YtennnhfaghdeoaaAggs
import Derived.ChangeSlices
namespace Go.Proofs.Ytennnhfaghdeoaa
open Go.ChangeShapes Go.WideShapes Go.ChangeAt Go.RowKit
theorem cellsStream : Try.prog.cellsOf 90 = 2 := by kernel_rfl
theorem cellsBytes : Try.prog.cellsOf 40 = 1 := by kernel_rfl
theorem cellsIntS : Try.prog.cellsOf 3 = 1 := by kernel_rfl
theorem cellsU8S : Try.prog.cellsOf 5 = 1 := by kernel_rfl
section
variable {H : Type} {enc : TypeId × Value → H} {w : World} {base : Nat}
set_option maxRecDepth 100000 in
/-- a slice of bytes that came in -/
theorem open_bytes {fuel : Nat} {cs : List Value} {x : DataW H × List MemPlace} (h : DataW.trod enc Try.prog w base (fun _ => true) true fuel 40 cs = some x) :
    ∃ A n c d, cs = [.slice A n c] ∧ BytesV w A n c d := by
  rcases open_ints Try.underlying40 Try.underlying5 cellsU8S h with ⟨hcs, hx⟩ | ⟨a, len, cap, zs, hcs, hb, hl, hm, hz, hx, hcell, hwz⟩
  · exact ⟨none, 0, 0, [], hcs, rfl, Nat.le_refl _, Nat.zero_le _, fun _ => rfl, Cells.nil _ _⟩
  · have hzl : zs.length = cap := by simpa using hz
    have hbytes : bytesOf ((zs.take len).map fun z => UInt8.ofNat z.toNat) = (zs.take len).map (Value.int .u8) := by
      unfold bytesOf
      rw [List.map_map]
      refine List.map_congr_left fun z hz' => ?_
      have := wf_u8 (hwz z (List.mem_of_mem_take hz'))
      simp only [Function.comp, UInt8.toNat_ofNat']
      congr 1
      omega
    refine ⟨some a, len, cap, (zs.take len).map (fun z => UInt8.ofNat z.toNat), hcs, ⟨by rw [List.length_map, List.length_take]; omega, hl, hm, (by intro h; cases h), ?_⟩⟩
    rw [hbytes]
    refine fun _ => ⟨a, rfl, fun j u hu => ?_⟩
    rw [List.getElem?_map] at hu
    obtain ⟨z, hz', rfl⟩ := Option.map_eq_some_iff.1 hu
    rw [List.getElem?_take] at hz'
    split at hz'
    · rename_i hj
      rw [hcell j (by omega)]
      simp [List.getD, hz']
    · cases hz'
set_option maxRecDepth 100000 in
/-- a stream that came in -/
theorem open_stream {b0 : Nat} {v : Value} {d : DataW H} {p : List MemPlace} (hv : Value.okWide Try.prog w .any b0 90 v) (h : DataW.Trod enc Try.prog w base (fun _ => true) true 90 v d p) :
    ∃ A n c k l, v = .agg #[.slice A n c, .int .i64 k] ∧ BytesV w A n c l ∧ (Lit.int .i64 k).wf = true := by
  obtain ⟨l, xs, m, rfl, hl, rfl, _, _, hf⟩ := open_struct Try.underlying90 hv h
  rw [cellsStream] at hl
  obtain ⟨x0, x1, rfl⟩ := list_two hl
  obtain ⟨_, _, t0⟩ := hf 0 _ rfl
  obtain ⟨_, _, t1⟩ := hf 1 _ rfl
  obtain ⟨k, e1, _, w1⟩ := DataW.trod_int Try.underlying3 t1
  obtain ⟨A, n, c, l, e0, hV⟩ := open_bytes t0
  simp [cellsBytes, cellsIntS] at e0 e1
  subst e0 e1
  exact ⟨A, n, c, k, l, rfl, hV, w1⟩
set_option maxRecDepth 100000 in
theorem open_bytes1 {b0 : Nat} {v : Value} {d : DataW H} {p : List MemPlace} (hv : Value.okWide Try.prog w .any b0 40 v) (h : DataW.Trod enc Try.prog w base (fun _ => true) true 40 v d p) :
    ∃ A n c l, v = .slice A n c ∧ BytesV w A n c l := by
  obtain ⟨A0, n0, c0, rfl⟩ := okWide_slice Try.underlying40 hv
  obtain ⟨fuel, hf⟩ := h
  obtain ⟨A, n, c, l, e, hV⟩ := open_bytes hf
  simp [Value.cells] at e
  obtain ⟨rfl, rfl, rfl⟩ := e
  exact ⟨A0, n0, c0, l, rfl, hV⟩
end
end Go.Proofs.Ytennnhfaghdeoaa
