import Derived.Test.YthgcpfofdbdkpaaCell
namespace Go.Proofs.Ythgcpfofdbdkpaa
open Go.RowKit

theorem new_23 (w : World) :
    Calls Try.prog 22 #[.int .i64 2, .int .i64 3] w fun e w' => ∃ g, e = .returned (.tuple #[.agg #[.int .i64 2, .int .i64 3, .slice (some ⟨g, 0, none⟩) 34 34], .int .i64 0]) ∧
      w'.cell? ⟨g, 1, none⟩ = some (.int .u64 1) ∧ w'.cell? ⟨g, 17, none⟩ = some (.int .u64 2) ∧ w'.cell? ⟨g, 25, none⟩ = some (.int .u64 3) ∧ w'.cell? ⟨g, 33, none⟩ = some (.int .u64 0) ∧ Ext w w' :=
  (new_yes 2 3 (by omega) (by omega) (by omega) w).mono fun e w' ⟨g, he, _, hr, hx⟩ => ⟨g, he, (hr 1 (by decide)).1, (hr 17 (by decide)).1, (hr 25 (by decide)).1, (hr 33 (by decide)).1, hx⟩
set_option maxRecDepth 100000 in
set_option maxHeartbeats 2000000 in
theorem shown9_any (w : World) : Calls Try.prog 21 #[] w fun e w' => e = .returned (.bool true) ∧ Ext w w' := by
  have hb0 : ∀ W : World, (Instr.build 42 #[]).run Try.prog W = .ok (.agg #[.int .i64 0, .int .i64 0, .slice none 0 0]) W := fun _ => by kernel_rfl
  have r1 : rightM 2 3 34 = true := by decide
  have r2 : rightM 0 0 0 = false := by decide
  have n1 : nextF 2 0 = 0 := by decide
  have n2 : nextF 2 2 = 18 := by decide
  go_enter Try.func21, Try.ntmps21
  go_wp2_with fail
  refine (new_23 _).mono ?_
  rintro e w1 ⟨g, rfl, c1, c17, c25, c33, hx1⟩
  go_wp2_with fail
  refine (new_no 0 3 (by decide) _).mono ?_
  rintro e w2 ⟨rfl, hx2⟩
  have hw1 : Ext w1 (w1.alloc (.cells #[.int .i64 2, .int .i64 3, .slice (some ⟨g, 0, none⟩) 34 34] 42)) := (Below.refl _ w1).alloc (Nat.le_refl _) _
  have b0 := hx2.cell (p := ⟨w1.heap.size, 0, none⟩) (v := .int .i64 2) (by simp [go_sem])
  have b1 := hx2.cell (p := ⟨w1.heap.size, 1, none⟩) (v := .int .i64 3) (by simp [go_sem])
  have b2 := hx2.cell (p := ⟨w1.heap.size, 2, none⟩) (v := .slice (some ⟨g, 0, none⟩) 34 34) (by simp [go_sem])
  replace hx2 := hw1.trans hx2
  have hlt := lt_of_cell b0
  have hw2 : Ext w2 (w2.alloc (.cells #[.int .i64 0, .int .i64 0, .slice none 0 0] 42)) := (Below.refl _ w2).alloc (Nat.le_refl _) _
  replace hx2 := hx2.trans hw2
  replace b0 := hw2.cell b0
  replace b1 := hw2.cell b1
  replace b2 := hw2.cell b2
  replace c1 := hx2.cell c1
  replace c17 := hx2.cell c17
  replace c25 := hx2.cell c25
  replace c33 := hx2.cell c33
  have hE := hx1.trans hx2
  clear hx1 hx2 hw1 hw2
  go_wp2_with (first
    | (go_at_call 29; refine (field_any _ _ _ (by omega) (by omega) (by omega) (by omega) (by omega) (by omega) _).mono ?_; rintro e w' ⟨rfl, rfl⟩)
    | (go_at_call 27; refine (pin_any _ (by omega) (by omega) _).mono ?_; rintro e w' ⟨rfl, rfl⟩)
    | (go_at_call 31; refine (next_any _ _ (by omega) (by omega) (by omega) (by omega) _).mono ?_; rintro e w' ⟨rfl, rfl⟩)
    | (go_at_call 25; refine (cright_any _ _ _ _ _ _).mono ?_; rintro e w3 ⟨rfl, hx3⟩; replace hE := hE.trans hx3; clear hx3))
  go_ret
  exact ⟨rfl, hE⟩
end Go.Proofs.Ythgcpfofdbdkpaa
