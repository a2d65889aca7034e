import Derived.Test.YtennnhfaghdeoaaStream
import Derived.Lib.SlBytesConst
namespace Go.Proofs.Ytennnhfaghdeoaa
open Go.RowKit
theorem bytes_new (l : List UInt8) (W : World) (fr : Nat × Nat) (hl : l.length ≤ 65536) : BytesV (W.alloc (.cells (bytesOf l).toArray 5 fr)) (some ⟨W.heap.size, 0, none⟩) l.length l.length l := by
  refine ⟨rfl, Nat.le_refl _, by simp only [maxLen]; omega, (by intro h; cases h), fun _ => ⟨_, rfl, fun j u hu => ?_⟩⟩
  have h1 : (W.alloc (.cells (bytesOf l).toArray 5 fr)).heap[W.heap.size]? = some (.cells (bytesOf l).toArray 5 fr) := heap_alloc_new W _
  have h2 : (⟨W.heap.size, 0, none⟩ : Addr).add j = ⟨W.heap.size, j, none⟩ := by unfold Addr.add; split <;> simp_all
  rw [h2]
  simp only [World.cell?, h1, Option.isSome_none, Bool.false_eq_true, if_false]
  simpa using hu
theorem bytes_nil (W : World) : BytesV W none 0 0 [] := ⟨rfl, Nat.le_refl _, Nat.zero_le _, fun _ => rfl, Cells.nil _ _⟩
end Go.Proofs.Ytennnhfaghdeoaa
