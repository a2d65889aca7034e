import Derived.Test.YtennnhfaghdeoaaDiskSame
import Derived.Test.YtennnhfaghdeoaaDiskCrash
namespace Go.Proofs.Ytennnhfaghdeoaa
open Go.RowKit

/-- keys behind a crash -/
theorem CutTo.keys {l L : List St} {ms : List Int} (h : CutTo l L ms l.length) : L.map St.key = l.mapIdx fun i s => (s.cut (ms.getD i 0)).key := by
  refine List.ext_getElem? fun i => ?_
  rw [List.getElem?_map, List.getElem?_mapIdx]
  rcases Nat.lt_or_ge i l.length with hi | hi
  · have := h.2 i l[i] (List.getElem?_eq_getElem hi)
    rw [if_pos hi] at this
    rw [this, List.getElem?_eq_getElem hi]; rfl
  · rw [List.getElem?_eq_none (by rw [h.1]; exact hi), List.getElem?_eq_none hi]; rfl
theorem cut_zero (m : Int) : (St.zero.cut m).key = St.zero.key := by
  have : cutN 0 0 m = 0 := by unfold cutN; omega
  simp [St.cut, St.zero, St.key, this]
theorem CutTo.zeros {L : List St} {ms : List Int} {n : Nat} (h : CutTo (List.replicate n St.zero) L ms n) : L.map St.key = (List.replicate n St.zero).map St.key := by
  have h' : CutTo (List.replicate n St.zero) L ms (List.replicate n St.zero).length := by rw [List.length_replicate]; exact h
  rw [h'.keys]
  refine List.ext_getElem? fun i => ?_
  rw [List.getElem?_map, List.getElem?_mapIdx]
  rcases Nat.lt_or_ge i n with hi | hi
  · simp [hi, cut_zero]
  · rw [List.getElem?_eq_none (by simpa using hi)]; rfl
end Go.Proofs.Ytennnhfaghdeoaa
