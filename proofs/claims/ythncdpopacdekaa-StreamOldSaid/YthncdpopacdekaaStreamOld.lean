/- Proved: the law StreamOld (two streams that are gone on with from one are apart) returns true at every input and turns none of its arguments. No condition. -/
import Derived.Test.YthncdpopacdekaaShown6
import Derived.Test.YthncdpopacdekaaLift
import Derived.Test.YthncdpopacdekaaStreamOpen
namespace Go.Proofs.Ythncdpopacdekaa
open Go.ChangeShapes Go.WideShapes Go.ChangeAt Go.RowKit

theorem str_cat (d a : List UInt8) : ((⟨d.toArray⟩ : ByteArray) ++ ⟨a.toArray⟩) = ⟨(d ++ a).toArray⟩ := by
  ext1
  simp
theorem str_cat_list (d a : List UInt8) : ((⟨d.toArray⟩ : ByteArray) ++ ⟨a.toArray⟩).toList = d ++ a := by rw [str_cat]; simp
set_option maxHeartbeats 4000000 in
theorem old_walk (A B C : Option Addr) (n c m c2 l c3 : Nat) (k : Int) (d a b : List UInt8) (w : World) (hA : BytesV w A n c d) (hB : BytesV w B m c2 a) (hC : BytesV w C l c3 b) (hn : n ≤ 300) (hm : m ≤ 300) (hl : l ≤ 300) (hr : rightB k n = true) :
    Calls Try.prog 5 #[.agg #[.slice A n c, .int .i64 k], .slice B m c2, .slice C l c3] w fun e w' => e = .returned (.bool true) ∧ Ext w w' := by
  have hE : Ext w (w.alloc (.cells #[.slice A n c, .int .i64 k] 24)) := (Below.refl _ w).alloc (Nat.le_refl _) _
  go_enter Try.func5, Try.ntmps5
  go_wp2_with (first
    | (go_at_call 13; refine (shown6_any _).mono ?_; rintro e w1 ⟨rfl, hx1⟩; have c0 := hx1.cell (p := ⟨w.heap.size, 0, none⟩) (v := .slice A n c) (by simp [go_sem]); have c1 := hx1.cell (p := ⟨w.heap.size, 1, none⟩) (v := .int .i64 k) (by simp [go_sem]); replace hE := hE.trans hx1; clear hx1)
    | (go_at_call 14; refine (rright_any _ _ _ _ _).mono ?_; rintro e w2 ⟨rfl, hx2⟩; replace c0 := hx2.cell c0; replace c1 := hx2.cell c1; replace hE := hE.trans hx2; clear hx2; have q1 := run_convert_bytesV (P := Try.prog) (hA.ext hE) Try.underlying22 Try.underlying5 Try.underlying9))
  refine (append_any A B n c m c2 k d a _ (hA.ext hE) (hB.ext hE) (by omega)).mono ?_
  rintro e w3 ⟨A1, c4, rfl, hV1, hx3⟩
  replace c0 := hx3.cell c0
  replace c1 := hx3.cell c1
  replace hE := hE.trans hx3
  have hz3 : w.heap.size < w3.heap.size := lt_of_cell c0
  clear hx3 q1
  go_wp2_with fail
  have hw3 : Ext w3 (w3.alloc (.cells #[.slice A1 (n + m) c4, .int .i64 k] 24)) := (Below.refl _ w3).alloc (Nat.le_refl _) _
  refine (append_any A C n c l c3 k d b _ (hA.ext (hE.trans hw3)) (hC.ext (hE.trans hw3)) (by omega)).mono ?_
  rintro e w4 ⟨A2, c5, rfl, hV2, hx4⟩
  have c2 := hx4.cell (p := ⟨w3.heap.size, 0, none⟩) (v := .slice A1 (n + m) c4) (by simp [go_sem])
  replace hx4 := hw3.trans hx4
  replace c0 := hx4.cell c0
  replace hE := hE.trans hx4
  have hz4 : w3.heap.size < w4.heap.size := lt_of_cell c2
  have hw4 : Ext w4 (w4.alloc (.cells #[.slice A2 (n + l) c5, .int .i64 k] 24)) := (Below.refl _ w4).alloc (Nat.le_refl _) _
  have q1 := run_convert_bytesV (P := Try.prog) ((hV1.ext hx4).ext hw4) Try.underlying22 Try.underlying5 Try.underlying9
  have q2 := run_convert_bytesV (P := Try.prog) (hV2.ext hw4) Try.underlying22 Try.underlying5 Try.underlying9
  have q3 := run_convert_bytesV (P := Try.prog) (hA.ext (hE.trans hw4)) Try.underlying22 Try.underlying5 Try.underlying9
  have q4 := run_convert_bytesV (P := Try.prog) (hB.ext (hE.trans hw4)) Try.underlying22 Try.underlying5 Try.underlying9
  have q5 := run_convert_bytesV (P := Try.prog) (hC.ext (hE.trans hw4)) Try.underlying22 Try.underlying5 Try.underlying9
  replace c0 := hw4.cell c0
  replace c2 := hw4.cell c2
  replace hE := hE.trans hw4
  have t1 := str_cat_list d a
  have t2 := str_cat_list d b
  have l1 : ¬ 9223372036854775807 < d.length + a.length := by rw [hA.len, hB.len]; omega
  have l2 : ¬ 9223372036854775807 < d.length + b.length := by rw [hA.len, hC.len]; omega
  clear hx4 hw3 hw4 hV1 hV2 hA hB hC
  go_wp2
  go_ret
  exact ⟨rfl, hE⟩
theorem old_up (A B C : Option Addr) (n c m c2 l c3 : Nat) (k : Int) (w : World) (h : 300 < n ∨ 300 < m ∨ 300 < l ∨ rightB k n = false) :
    Calls Try.prog 5 #[.agg #[.slice A n c, .int .i64 k], .slice B m c2, .slice C l c3] w fun e w' => e = .returned (.bool true) ∧ Ext w w' := by
  have hE : Ext w (w.alloc (.cells #[.slice A n c, .int .i64 k] 24)) := (Below.refl _ w).alloc (Nat.le_refl _) _
  by_cases hn : 300 < n
  · go_enter Try.func5, Try.ntmps5
    go_wp2_with (go_at_call 13; refine (shown6_any _).mono ?_; rintro e w1 ⟨rfl, hx1⟩; have c0 := hx1.cell (p := ⟨w.heap.size, 0, none⟩) (v := .slice A n c) (by simp [go_sem]); replace hE := hE.trans hx1; clear hx1)
    go_ret
    exact ⟨rfl, hE⟩
  · by_cases hm : 300 < m
    · go_enter Try.func5, Try.ntmps5
      go_wp2_with (go_at_call 13; refine (shown6_any _).mono ?_; rintro e w1 ⟨rfl, hx1⟩; have c0 := hx1.cell (p := ⟨w.heap.size, 0, none⟩) (v := .slice A n c) (by simp [go_sem]); replace hE := hE.trans hx1; clear hx1)
      go_ret
      exact ⟨rfl, hE⟩
    · by_cases hl : 300 < l
      · go_enter Try.func5, Try.ntmps5
        go_wp2_with (go_at_call 13; refine (shown6_any _).mono ?_; rintro e w1 ⟨rfl, hx1⟩; have c0 := hx1.cell (p := ⟨w.heap.size, 0, none⟩) (v := .slice A n c) (by simp [go_sem]); replace hE := hE.trans hx1; clear hx1)
        go_ret
        exact ⟨rfl, hE⟩
      · have hr : rightB k n = false := ((h.resolve_left hn).resolve_left hm).resolve_left hl
        go_enter Try.func5, Try.ntmps5
        go_wp2_with (first
          | (go_at_call 13; refine (shown6_any _).mono ?_; rintro e w1 ⟨rfl, hx1⟩; have c0 := hx1.cell (p := ⟨w.heap.size, 0, none⟩) (v := .slice A n c) (by simp [go_sem]); have c1 := hx1.cell (p := ⟨w.heap.size, 1, none⟩) (v := .int .i64 k) (by simp [go_sem]); replace hE := hE.trans hx1; clear hx1)
          | (go_at_call 14; refine (rright_any _ _ _ _ _).mono ?_; rintro e w2 ⟨rfl, hx2⟩; replace hE := hE.trans hx2; clear hx2))
        go_ret
        exact ⟨rfl, hE⟩
set_option maxRecDepth 100000 in
theorem StreamOld_lifted (os : Os) (started : os.Started) (H : Type) (enc : TypeId × Value → H) :
    ReturnsInHanded {} Try.checked os 5 .any (Rows.streamOldSpec.pre6 enc Try.prog Try.f5 Rows.streamOldRow.domain false) (Rows.streamOldSpec.post enc Try.prog Try.f5 false true false false) := by
  refine law_row os started H enc Rows.streamOldSpec rfl (fun ds h => by
    match ds, h with
    | [_, _, _], _ => rfl) (by kernel_rfl) Try.func5 rfl
    (by rw [Try.params5]; intro t ht; simp at ht; rcases ht with rfl | rfl <;> exact ⟨by kernel_rfl, of_decide_eq_true (by kernel_rfl)⟩)
    (ChangeSpec.witness6 (enc := enc) (C := Try.checked) false ⟨#[], #[.agg #[.slice none 0 0, .int .i64 0], .slice none 0 0, .slice none 0 0], []⟩ 8 (by kernel_rfl) (by kernel_rfl) (by kernel_rfl) (by kernel_rfl)) ?_
  intro W base args ds ps hval hA hlt
  rw [Try.params5] at hA hval
  obtain ⟨v0, v1, v2, d0, d1, d2, p0, p1, p2, rfl, rfl, rfl, h0, h1, h2⟩ := trodAll_three hA
  obtain ⟨A, n, c, k, d, rfl, hV, _⟩ := open_stream (hval 0 _ v0 rfl rfl) h0
  obtain ⟨B, m, c2, a, rfl, hV1⟩ := open_bytes1 (hval 1 _ v1 rfl rfl) h1
  obtain ⟨C, l, c3, b, rfl, hV2⟩ := open_bytes1 (hval 2 _ v2 rfl rfl) h2
  by_cases h : 300 < n ∨ 300 < m ∨ 300 < l ∨ rightB k n = false
  · exact old_up A B C n c m c2 l c3 k W h
  · simp only [not_or, Bool.not_eq_false, Nat.not_lt] at h
    exact old_walk A B C n c m c2 l c3 k d a b W hV hV1 hV2 h.1 h.2.1 h.2.2.1 h.2.2.2
theorem StreamOld_holds : Rows.StreamOldSaid :=
  OpenClaim.holds_of_wide 5 Try.f5 rfl rfl rfl rfl rfl rfl rfl ⟨rfl, rfl, rfl, rfl, rfl⟩ rfl rfl rfl rfl rfl (by kernel_rfl) Try.func5 (by kernel_rfl)
    (of_decide_eq_true (by kernel_rfl)) (by unfold Func.isWrapper; rw [if_neg (of_decide_eq_false (by kernel_rfl))]; exact ⟨rfl, rfl⟩)
    (fun os started H enc _ => StreamOld_lifted os started H enc)
#print axioms StreamOld_holds
end Go.Proofs.Ythncdpopacdekaa
