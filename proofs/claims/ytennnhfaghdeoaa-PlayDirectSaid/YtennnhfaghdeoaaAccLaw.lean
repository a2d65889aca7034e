import Derived.Test.YtennnhfaghdeoaaAccSame
import Derived.Test.YtennnhfaghdeoaaAccOpen
import Derived.Test.YtennnhfaghdeoaaAccShown
import Derived.Lib.Hide
namespace Go.Proofs.Ytennnhfaghdeoaa
open Go.ChangeShapes Go.WideShapes Go.ChangeAt Go.RowKit

/-! What the laws of chapter 10 share. -/
theorem boxes3 (w : World) (o0 o1 o2 : Obj) : Ext w (((w.alloc o0).alloc o1).alloc o2) ∧ (((w.alloc o0).alloc o1).alloc o2).heap[w.heap.size]? = some o0 ∧ (((w.alloc o0).alloc o1).alloc o2).heap[w.heap.size + 1]? = some o1 ∧ (((w.alloc o0).alloc o1).alloc o2).heap[w.heap.size + 1 + 1]? = some o2 := by
  obtain ⟨h, h0, h1⟩ := two_boxes7 w o0 o1
  have hx : Ext ((w.alloc o0).alloc o1) (((w.alloc o0).alloc o1).alloc o2) := (Below.refl _ _).alloc (Nat.le_refl _) _
  exact ⟨h.trans hx, heap_ext h0 hx, heap_ext h1 hx, by simpa using heap_alloc_new ((w.alloc o0).alloc o1) o2⟩
theorem doK_word {X : WldK} {me : Int} {A : AccK} {f : Bool} (h0 : 0 ≤ A.kind) (h4 : A.kind ≤ 4) : doK X me A f = { X with ws := wordsK X.ws A } := by
  have h1 : diskKind A.kind = false := by simp [diskKind]; omega
  have h2 : ¬ A.kind = 13 := by omega
  simp [doK, h1, h2]
theorem doR_word {X : WldK} {A : AccK} {f : Bool} (h0 : 0 ≤ A.kind) (h4 : A.kind ≤ 4) : doR X A f = wordsR X.ws A := by
  have h1 : diskKind A.kind = false := by simp [diskKind]; omega
  have h2 : ¬ A.kind = 13 := by omega
  simp [doR, h1, h2]
theorem useM_word {A : AccK} {f : Bool} (h4 : A.kind ≤ 4) : useM A f = 0 := by
  have h1 : diskKind A.kind = false := by simp [diskKind]; omega
  simp [useM, h1]
theorem Fit.word {X : WldK} {m : Nat} {me : Int} {A : AccK} {f : Bool} (h : Fit X m) (h0 : 0 ≤ A.kind) (h4 : A.kind ≤ 4) : Fit (doK X me A f) m := by
  rw [doK_word h0 h4]
  exact ⟨h.pos, h.le, h.root, by simp only [wordsK_length]; exact h.ws, h.k0, h.k1⟩
theorem wordsK_getD (ws : List Int) (a b : AccK) (hc : a.cell ≠ b.cell) (h : inW ws.length a = true) : (wordsK ws b).getD a.cell.toNat 0 = ws.getD a.cell.toNat 0 := by
  unfold wordsK
  split
  · rename_i hb
    have h1 := inW_iff.1 h
    have h2 := inW_iff.1 hb
    have : b.cell.toNat ≠ a.cell.toNat := by omega
    simp only [List.getD_eq_getElem?_getD, List.getElem?_set_ne this]
  · rfl
theorem wordsR_other (ws : List Int) (a b : AccK) (hc : a.cell ≠ b.cell) : wordsR (wordsK ws b) a = wordsR ws a := by
  unfold wordsR
  rw [wordsK_length]
  split
  · rename_i h
    rw [wordsK_getD ws a b hc h]
  · rfl
theorem wordsK_in {ws : List Int} {A : AccK} (h : inW ws.length A = true) : wordsK ws A = ws.set A.cell.toNat (turnX A.kind (ws.getD A.cell.toNat 0) A.a A.b) := by simp [wordsK, h]
theorem wordsK_out {ws : List Int} {A : AccK} (h : inW ws.length A = false) : wordsK ws A = ws := by simp [wordsK, h]
theorem wordsK_comm (ws : List Int) (a b : AccK) (hc : a.cell ≠ b.cell) : wordsK (wordsK ws a) b = wordsK (wordsK ws b) a := by
  by_cases ha : inW ws.length a = true
  · by_cases hb : inW ws.length b = true
    · have h1 := inW_iff.1 ha
      have h2 := inW_iff.1 hb
      rw [wordsK_in (ws := wordsK ws a) (by rw [wordsK_length]; exact hb), wordsK_in (ws := wordsK ws b) (by rw [wordsK_length]; exact ha), wordsK_getD ws b a (Ne.symm hc) hb, wordsK_getD ws a b hc ha, wordsK_in ha, wordsK_in hb]
      exact List.set_comm _ _ (by omega)
    · have hb' : inW ws.length b = false := by simpa using hb
      rw [wordsK_out hb', wordsK_out (ws := wordsK ws a) (by rw [wordsK_length]; exact hb')]
  · have ha' : inW ws.length a = false := by simpa using ha
    rw [wordsK_out ha', wordsK_out (ws := wordsK ws b) (by rw [wordsK_length]; exact ha')]
end Go.Proofs.Ytennnhfaghdeoaa
