/- Proved: the law WordRound (a tag that is one more goes on by one, and round) returns true at every input and turns none of its arguments. No condition. -/
import Derived.Test.YthncdpopacdekaaWordRef
import Derived.Test.YthncdpopacdekaaLift
import Derived.Lib.Hide
namespace Go.Proofs.Ythncdpopacdekaa
open Go.ChangeShapes Go.WideShapes Go.ChangeAt Go.RowKit

theorem round_facts (r t : Int) (hr : isRef r) (ht : U64 t) : firstF (topF r t) = r ∧ tagF (topF r t) = t % 17592186044416 := by
  rw [top_ref hr ht]
  obtain ⟨h0, h1⟩ := hr
  exact ⟨by unfold firstF; omega, by unfold tagF; omega⟩
theorem round_link (r : Int) (hr : isRef r) : (linkF r true == IntKind.u64.wrap (linkF r false + 1)) = true ∧ (refF (IntKind.u64.wrap (linkF r false + 1)) == r) = true ∧
    markF (IntKind.u64.wrap (linkF r false + 1)) = true ∧ markF (linkF r false) = false ∧ U64 (linkF r false) := by
  rw [link_ref hr, link_ref hr, IntKind.wrap_u64]
  obtain ⟨h0, h1⟩ := hr
  refine ⟨?_, ?_, ?_, ?_, ?_⟩ <;> simp [refF, markF, U64] <;> omega
theorem round_walk (r t : Int) (ht : U64 t) (w : World) :
    Calls Try.prog 11 #[.int .i64 r, .int .u64 t] w fun e w' => e = .returned (.bool true) ∧ w = w' := by
  by_cases hr : isRefB r = true
  · have pr := isRefB_true hr
    obtain ⟨e1, e2⟩ := round_facts r t pr ht
    have u1 := top_u64 r t
    obtain ⟨l1, l2, l3, l4, l5⟩ := round_link r pr
    have l6 := u64_wrap (linkF r false + 1)
    have hT : U64 (t % 17592186044416 + 1) := ⟨by have := ht.1; omega, by have := ht.1; omega⟩
    have hq0 : 0 ≤ t % 17592186044416 := by omega
    have hq1 : t % 17592186044416 < 17592186044416 := by omega
    have hE1 := Lib.hid e1
    have hE2 := Lib.hid e2
    clear e1 e2
    obtain ⟨g1, g2⟩ := round_facts r (t % 17592186044416 + 1) pr hT
    have u2 := top_u64 r (t % 17592186044416 + 1)
    have k1 : (firstF (topF r (t % 17592186044416 + 1)) == r) = true := by rw [g1]; simp
    by_cases hlast : t % 17592186044416 = 17592186044415
    · have k2 : (tagF (topF r (t % 17592186044416 + 1)) == t % 17592186044416 + 1) = false := by rw [g2, beq_eq_false_iff_ne]; omega
      have k3 : (tagF (topF r (t % 17592186044416 + 1)) == 0) = true := by rw [g2, beq_iff_eq]; omega
      have k4 : (t % 17592186044416 == 17592186044415) = true := by rw [beq_iff_eq]; exact hlast
      clear g1 g2 hlast
      go_enter Try.func11, Try.ntmps11
      go_wp2_with (first
        | (go_at_call 23; refine (shown8_any _).mono ?_; rintro e w' ⟨rfl, rfl⟩)
        | (go_at_call 24; refine (is_any _ _).mono ?_; rintro e w' ⟨rfl, rfl⟩)
        | (go_at_call 39; refine (top_any _ _ _).mono ?_; rintro e w' ⟨rfl, rfl⟩)
        | (go_at_call 41; refine (first_any _ (by assumption) _).mono ?_; rintro e w' ⟨rfl, rfl⟩; try rw [hE1.out])
        | (go_at_call 43; refine (tag_any _ _).mono ?_; rintro e w' ⟨rfl, rfl⟩; try rw [hE2.out])
        | (go_at_call 29; refine (ref_any _ (by assumption) _).mono ?_; rintro e w' ⟨rfl, rfl⟩)
        | (go_at_call 31; refine (mark_any _ (by assumption) _).mono ?_; rintro e w' ⟨rfl, rfl⟩)
        | (go_at_call 27; refine (link_any _ _ _).mono ?_; rintro e w' ⟨rfl, rfl⟩))
      go_ret
      exact ⟨rfl, rfl⟩
    · have k2 : (tagF (topF r (t % 17592186044416 + 1)) == t % 17592186044416 + 1) = true := by rw [g2, beq_iff_eq]; omega
      clear g1 g2 hlast
      go_enter Try.func11, Try.ntmps11
      go_wp2_with (first
        | (go_at_call 23; refine (shown8_any _).mono ?_; rintro e w' ⟨rfl, rfl⟩)
        | (go_at_call 24; refine (is_any _ _).mono ?_; rintro e w' ⟨rfl, rfl⟩)
        | (go_at_call 39; refine (top_any _ _ _).mono ?_; rintro e w' ⟨rfl, rfl⟩)
        | (go_at_call 41; refine (first_any _ (by assumption) _).mono ?_; rintro e w' ⟨rfl, rfl⟩; try rw [hE1.out])
        | (go_at_call 43; refine (tag_any _ _).mono ?_; rintro e w' ⟨rfl, rfl⟩; try rw [hE2.out])
        | (go_at_call 29; refine (ref_any _ (by assumption) _).mono ?_; rintro e w' ⟨rfl, rfl⟩)
        | (go_at_call 31; refine (mark_any _ (by assumption) _).mono ?_; rintro e w' ⟨rfl, rfl⟩)
        | (go_at_call 27; refine (link_any _ _ _).mono ?_; rintro e w' ⟨rfl, rfl⟩))
      go_ret
      exact ⟨rfl, rfl⟩
  · have hr' : isRefB r = false := by simpa using hr
    go_enter Try.func11, Try.ntmps11
    go_wp2_with (first
      | (go_at_call 23; refine (shown8_any _).mono ?_; rintro e w' ⟨rfl, rfl⟩)
      | (go_at_call 24; refine (is_any _ _).mono ?_; rintro e w' ⟨rfl, rfl⟩))
    go_ret
    exact ⟨rfl, rfl⟩
set_option maxRecDepth 100000 in
theorem WordRound_lifted (os : Os) (started : os.Started) (H : Type) (enc : TypeId × Value → H) :
    ReturnsInHanded {} Try.checked os 11 .any (Rows.wordRoundSpec.pre6 enc Try.prog Try.f11 Rows.wordRoundRow.domain false) (Rows.wordRoundSpec.post enc Try.prog Try.f11 false true false false) := by
  refine law_row os started H enc Rows.wordRoundSpec rfl (fun ds h => by
    match ds, h with
    | [_, _], _ => rfl) (by kernel_rfl) Try.func11 rfl
    (by rw [Try.params11]; intro t ht; simp at ht; rcases ht with rfl | rfl <;> exact ⟨by kernel_rfl, of_decide_eq_true (by kernel_rfl)⟩)
    (ChangeSpec.witness6 (enc := enc) (C := Try.checked) false ⟨#[], #[.int .i64 0, .int .u64 0], []⟩ 8 (by kernel_rfl) (by kernel_rfl) (by kernel_rfl) (by kernel_rfl)) ?_
  intro W base args ds ps hval hA hlt
  rw [Try.params11] at hA hval
  obtain ⟨v0, v1, d0, d1, p0, p1, rfl, rfl, rfl, h0, h1⟩ := trodAll_two hA
  obtain ⟨a0, rfl, rfl, rfl, w0⟩ := open_int Try.underlying3 (hval 0 _ v0 rfl rfl) h0
  obtain ⟨a1, rfl, rfl, rfl, w1⟩ := open_int Try.underlying37 (hval 1 _ v1 rfl rfl) h1
  refine (round_walk a0 a1 (wf_u64 w1) W).mono fun e W' ⟨he, hw⟩ => ?_
  subst hw
  exact ⟨he, Below.refl _ _⟩
theorem WordRound_holds : Rows.WordRoundSaid :=
  OpenClaim.holds_of_wide 11 Try.f11 rfl rfl rfl rfl rfl rfl rfl ⟨rfl, rfl, rfl, rfl, rfl⟩ rfl rfl rfl rfl rfl (by kernel_rfl) Try.func11 (by kernel_rfl)
    (of_decide_eq_true (by kernel_rfl)) (by unfold Func.isWrapper; rw [if_neg (of_decide_eq_false (by kernel_rfl))]; exact ⟨rfl, rfl⟩)
    (fun os started H enc _ => WordRound_lifted os started H enc)
#print axioms WordRound_holds
end Go.Proofs.Ythncdpopacdekaa
