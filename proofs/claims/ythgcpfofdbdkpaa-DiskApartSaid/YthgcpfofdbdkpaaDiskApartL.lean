import Derived.Test.YthgcpfofdbdkpaaDiskFew
import Derived.Test.YthgcpfofdbdkpaaDiskBig
namespace Go.Proofs.Ythgcpfofdbdkpaa
open Go.ChangeShapes Go.WideShapes Go.ChangeAt Go.RowKit

theorem str_cat7 (d a : List UInt8) : ((⟨d.toArray⟩ : ByteArray) ++ ⟨a.toArray⟩) = ⟨(d ++ a).toArray⟩ := by
  ext1
  simp
theorem rightD_true2 {n0 n1 : Nat} {l0 l1 : List St} (h : rightD n0 n1 l0 l1 = true) : 1 ≤ n0 ∧ n0 ≤ 64 ∧ n1 = n0 ∧ (∀ s ∈ l0, rightB s.k s.q = true) ∧ (∀ s ∈ l1, rightB s.k s.q = true) := by
  simp only [rightD, Bool.and_eq_true, decide_eq_true_eq, List.all_eq_true] at h
  exact ⟨h.1.1, h.1.2.1, h.1.2.2, fun s hs => h.2 s (by simp [hs]), fun s hs => h.2 s (by simp [hs])⟩
theorem CutTo.rights {l L : List St} {ms : List Int} {n : Nat} (h : CutTo l L ms n) (hn : l.length = n) : ∀ s ∈ L, St.right s = true := fun x hx => by
  obtain ⟨i, hi⟩ := List.getElem?_of_mem hx
  have hil : i < l.length := by rw [← h.1]; exact (List.getElem?_eq_some_iff.1 hi).1
  have := h.2 i l[i] (List.getElem?_eq_getElem hil)
  rw [hi, if_pos (by omega)] at this
  cases this
  simp [St.right, rightB, St.cut]
theorem run_slice_hi {P : Program} (t e : TypeId) (i : TypeInfo) (ht : P.underlying t = some (.slice e)) (hi : P.info? e = some i) (A : Option Addr) (n c h : Nat) (hh : h ≤ c) (w : World) :
    (Instr.slice t (.slice A n c) none (some (.int .i64 (h : Int))) none).run P w = .ok (.slice A h c) w := by
  simp [Instr.slice, run_underlying ht, Instr.sliceBounds, Instr.sliceBound, asIntOf, sizeOf, typeInfo, hi, hh]
  cases A <;> simp [Addr.add]
theorem BytesV.upto {w : World} {A : Option Addr} {n c : Nat} {l : List UInt8} (h : BytesV w A n c l) {m : Nat} (hm : m ≤ n) : BytesV w A m c (l.take m) := by
  have h1 := h.cut hm
  exact ⟨h1.len, Nat.le_trans hm h.le, h.cap, h.nil, h1.cells⟩
theorem cutN_ge {n : Nat} {k more : Int} (h0 : 0 ≤ k) (h1 : k ≤ n) : k ≤ (cutN n k more : Int) := by unfold cutN; omega
end Go.Proofs.Ythgcpfofdbdkpaa
