/- Proved: the law WordTells (words, and what they hold, are as the document says) returns true at every input and turns none of its arguments. No condition. -/
import Derived.Test.YthncdpopacdekaaWordRef
import Derived.Test.YthncdpopacdekaaLift
import Derived.Test.YthncdpopacdekaaAggs
namespace Go.Proofs.Ythncdpopacdekaa
open Go.ChangeShapes Go.WideShapes Go.ChangeAt Go.RowKit

set_option maxHeartbeats 2000000 in
theorem tells_walk (r o : Int) (m : Bool) (n b x : Int) (wn : U64 n) (wx : U64 x) (w : World) :
    Calls Try.prog 8 #[.agg #[.int .i64 r, .int .i64 o, .bool m, .int .u64 n, .int .i64 b, .int .u64 x]] w fun e w' => e = .returned (.bool true) ∧ Below w.heap.size w w' := by
  by_cases hr : isRefB r = true
  · by_cases ho : isRefB o = true
    · have pr := isRefB_true hr
      have po := isRefB_true ho
      go_enter Try.func8, Try.ntmps8
      go_wp2_with (first
        | (go_at_call 23; refine (shown8_any _).mono ?_; rintro e w' ⟨rfl, rfl⟩)
        | (go_at_call 24; refine (is_any _ _).mono ?_; rintro e w' ⟨rfl, rfl⟩)
        | (go_at_call 45; refine (ends_any _ _ _).mono ?_; rintro e w' ⟨rfl, rfl⟩)
        | (go_at_call 46; refine (rends_ref _ _ (by assumption) (by assumption) _).mono ?_; rintro e w' ⟨rfl, rfl⟩)
        | (go_at_call 25; refine (pair_any _ (by assumption) _).mono ?_; rintro e w' ⟨rfl, rfl⟩)
        | (go_at_call 26; refine (rpair_any _ (by assumption) _).mono ?_; rintro e w' ⟨rfl, rfl⟩)
        | (go_at_call 27; refine (link_any _ _ _).mono ?_; rintro e w' ⟨rfl, rfl⟩)
        | (go_at_call 28; refine (rlink_ref _ (by assumption) _ _).mono ?_; rintro e w' ⟨rfl, rfl⟩)
        | (go_at_call 29; refine (ref_any _ (by assumption) _).mono ?_; rintro e w' ⟨rfl, rfl⟩)
        | (go_at_call 30; refine (rref_any _ (by assumption) _).mono ?_; rintro e w' ⟨rfl, rfl⟩)
        | (go_at_call 31; refine (mark_any _ (by assumption) _).mono ?_; rintro e w' ⟨rfl, rfl⟩)
        | (go_at_call 32; refine (rmark_any _ (by assumption) _).mono ?_; rintro e w' ⟨rfl, rfl⟩)
        | (go_at_call 33; refine (flag_any _ _ _).mono ?_; rintro e w' ⟨rfl, rfl⟩)
        | (go_at_call 34; refine (rflag_any _ _ (by assumption) _).mono ?_; rintro e w' ⟨rfl, rfl⟩)
        | (go_at_call 35; refine (stamp_any _ _).mono ?_; rintro e w' ⟨rfl, rfl⟩)
        | (go_at_call 36; refine (rstamp_any _ (by assumption) _).mono ?_; rintro e w' ⟨rfl, rfl⟩)
        | (go_at_call 37; refine (has_any _ _ (by assumption) _).mono ?_; rintro e w' ⟨rfl, rfl⟩)
        | (go_at_call 38; refine (rhas_any _ _ (by assumption) _).mono ?_; rintro e w' ⟨rfl, rfl⟩)
        | (go_at_call 39; refine (top_any _ _ _).mono ?_; rintro e w' ⟨rfl, rfl⟩)
        | (go_at_call 40; refine (rtop_ref _ _ (by assumption) (by assumption) _).mono ?_; rintro e w' ⟨rfl, rfl⟩)
        | (go_at_call 41; refine (first_any _ (by assumption) _).mono ?_; rintro e w' ⟨rfl, rfl⟩)
        | (go_at_call 42; refine (rfirst_any _ (by assumption) _).mono ?_; rintro e w' ⟨rfl, rfl⟩)
        | (go_at_call 43; refine (tag_any _ _).mono ?_; rintro e w' ⟨rfl, rfl⟩)
        | (go_at_call 44; refine (rtag_any _ (by assumption) _).mono ?_; rintro e w' ⟨rfl, rfl⟩))
      go_ret
      exact ⟨rfl, (Below.refl _ _).alloc (Nat.le_refl _) _⟩
    · have ho' : isRefB o = false := by simpa using ho
      go_enter Try.func8, Try.ntmps8
      go_wp2_with (first
        | (go_at_call 23; refine (shown8_any _).mono ?_; rintro e w' ⟨rfl, rfl⟩)
        | (go_at_call 24; refine (is_any _ _).mono ?_; rintro e w' ⟨rfl, rfl⟩))
      go_ret
      exact ⟨rfl, (Below.refl _ _).alloc (Nat.le_refl _) _⟩
  · have hr' : isRefB r = false := by simpa using hr
    go_enter Try.func8, Try.ntmps8
    go_wp2_with (first
      | (go_at_call 23; refine (shown8_any _).mono ?_; rintro e w' ⟨rfl, rfl⟩)
      | (go_at_call 24; refine (is_any _ _).mono ?_; rintro e w' ⟨rfl, rfl⟩))
    go_ret
    exact ⟨rfl, (Below.refl _ _).alloc (Nat.le_refl _) _⟩
theorem cellsTells : Try.prog.cellsOf 39 = 6 := by kernel_rfl
theorem cellsInt : Try.prog.cellsOf 3 = 1 := by kernel_rfl
theorem cellsBool : Try.prog.cellsOf 4 = 1 := by kernel_rfl
theorem cellsU64 : Try.prog.cellsOf 37 = 1 := by kernel_rfl
set_option maxRecDepth 100000 in
theorem WordTells_lifted (os : Os) (started : os.Started) (H : Type) (enc : TypeId × Value → H) :
    ReturnsInHanded {} Try.checked os 8 .any (Rows.wordTellsSpec.pre6 enc Try.prog Try.f8 Rows.wordTellsRow.domain false) (Rows.wordTellsSpec.post enc Try.prog Try.f8 false true false false) := by
  refine law_row os started H enc Rows.wordTellsSpec rfl (fun ds h => by
    match ds, h with
    | [_], _ => rfl) (by kernel_rfl) Try.func8 rfl
    (by rw [Try.params8]; intro t ht; simp at ht; subst ht; exact ⟨by kernel_rfl, of_decide_eq_true (by kernel_rfl)⟩)
    (ChangeSpec.witness6 (enc := enc) (C := Try.checked) false ⟨#[], #[.agg #[.int .i64 0, .int .i64 0, .bool false, .int .u64 0, .int .i64 0, .int .u64 0]], []⟩ 8 (by kernel_rfl) (by kernel_rfl) (by kernel_rfl) (by kernel_rfl)) ?_
  intro W base args ds ps hval hA hlt
  rw [Try.params8] at hA hval
  obtain ⟨v0, d0, rfl, rfl, h0⟩ := trodAll_one hA
  obtain ⟨l, xs, n, rfl, hl, rfl, _, _, hf⟩ := open_struct Try.underlying39 (hval 0 _ v0 rfl rfl) h0
  rw [cellsTells] at hl
  obtain ⟨c0, c1, c2, c3, c4, c5, rfl⟩ := list_six hl
  obtain ⟨_, _, t0⟩ := hf 0 _ rfl
  obtain ⟨_, _, t1⟩ := hf 1 _ rfl
  obtain ⟨_, _, t2⟩ := hf 2 _ rfl
  obtain ⟨_, _, t3⟩ := hf 3 _ rfl
  obtain ⟨_, _, t4⟩ := hf 4 _ rfl
  obtain ⟨_, _, t5⟩ := hf 5 _ rfl
  obtain ⟨a0, e0, _, w0⟩ := DataW.trod_int Try.underlying3 t0
  obtain ⟨a1, e1, _, w1⟩ := DataW.trod_int Try.underlying3 t1
  obtain ⟨a2, e2, _⟩ := DataW.trod_bool Try.underlying4 t2
  obtain ⟨a3, e3, _, w3⟩ := DataW.trod_int Try.underlying37 t3
  obtain ⟨a4, e4, _, w4⟩ := DataW.trod_int Try.underlying3 t4
  obtain ⟨a5, e5, _, w5⟩ := DataW.trod_int Try.underlying37 t5
  simp [cellsInt, cellsBool, cellsU64] at e0 e1 e2 e3 e4 e5
  subst e0 e1 e2 e3 e4 e5
  exact tells_walk a0 a1 a2 a3 a4 a5 (wf_u64 w3) (wf_u64 w5) W
theorem WordTells_holds : Rows.WordTellsSaid :=
  OpenClaim.holds_of_wide 8 Try.f8 rfl rfl rfl rfl rfl rfl rfl ⟨rfl, rfl, rfl, rfl, rfl⟩ rfl rfl rfl rfl rfl (by kernel_rfl) Try.func8 (by kernel_rfl)
    (of_decide_eq_true (by kernel_rfl)) (by unfold Func.isWrapper; rw [if_neg (of_decide_eq_false (by kernel_rfl))]; exact ⟨rfl, rfl⟩)
    (fun os started H enc _ => WordTells_lifted os started H enc)
#print axioms WordTells_holds
end Go.Proofs.Ythncdpopacdekaa
