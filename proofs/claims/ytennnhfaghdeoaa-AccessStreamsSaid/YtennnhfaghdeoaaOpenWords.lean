import Derived.Test.YtennnhfaghdeoaaWords
import Derived.Test.YtennnhfaghdeoaaStreamOpen
import Derived.Test.YtennnhfaghdeoaaSlices
namespace Go.Proofs.Ytennnhfaghdeoaa
open Go.ChangeShapes Go.WideShapes Go.ChangeAt Go.RowKit

/-! Rows of words that came in. -/
theorem cellsU64S : Try.prog.cellsOf 26 = 1 := by kernel_rfl
theorem cellsWordsS : Try.prog.cellsOf 23 = 1 := by kernel_rfl
theorem cellsBoolS : Try.prog.cellsOf 4 = 1 := by kernel_rfl
theorem list_three {l : List Value} (h : l.length = 3) : ∃ a b c, l = [a, b, c] := by
  match l, h with
  | [a, b, c], _ => exact ⟨a, b, c, rfl⟩
section
variable {H : Type} {enc : TypeId × Value → H} {w : World} {base : Nat}
theorem open_words {fuel : Nat} {cs : List Value} {x : DataW H × List MemPlace} (h : DataW.trod enc Try.prog w base (fun _ => true) true fuel 23 cs = some x) :
    ∃ A n c d, cs = [.slice A n c] ∧ WordsV w A n c d := by
  rcases open_ints Try.underlying23 Try.underlying26 cellsU64S h with ⟨hcs, hx⟩ | ⟨a, len, cap, zs, hcs, hb, hl, hm, hz, hx, hcell, hwz⟩
  · exact ⟨none, 0, 0, [], hcs, words_nil w⟩
  · have hzl : zs.length = cap := by simpa using hz
    refine ⟨some a, len, cap, zs.take len, hcs, ⟨by rw [List.length_take]; omega, hl, hm, (by intro h; cases h), ?_, fun z hz' => wf_u64 (hwz z (List.mem_of_mem_take hz'))⟩⟩
    refine fun _ => ⟨a, rfl, fun j u hu => ?_⟩
    unfold wordsOf at hu
    rw [List.getElem?_map] at hu
    obtain ⟨z, hz', rfl⟩ := Option.map_eq_some_iff.1 hu
    rw [List.getElem?_take] at hz'
    split at hz'
    · rename_i hj
      rw [hcell j (by omega)]
      simp [List.getD, hz']
    · cases hz'
end
end Go.Proofs.Ytennnhfaghdeoaa
