/- Proved: the law WordHas (a flag that gets a bit more has it, and what it had) returns true at every input and turns none of its arguments. No condition. -/
import Derived.Test.YthncdpopacdekaaWordRef
import Derived.Test.YthncdpopacdekaaLift
namespace Go.Proofs.Ythncdpopacdekaa
open Go.ChangeShapes Go.WideShapes Go.ChangeAt Go.RowKit

theorem or_lt4 : ∀ x, x < 4 → ∀ y, y < 4 → x ||| y < 4 := by decide
/-- a flag, and bits more -/
theorem or_flag (s x y : Int) (hs : U64 s) (h60 : s < 1152921504606846976) (hx0 : 0 ≤ x) (hx : x < 4) (hy0 : 0 ≤ y) (hy : y < 4) :
    bits .or .u64 (flagF s x) y = s * 4 + ((x.toNat ||| y.toNat : Nat) : Int) := by
  have hs0 := hs.1
  have e : flagF s x = s * 4 + x := by rw [flag_eq s x hs]; omega
  obtain ⟨a, rfl⟩ := Int.eq_ofNat_of_zero_le hs0
  obtain ⟨b, rfl⟩ := Int.eq_ofNat_of_zero_le hx0
  obtain ⟨c, rfl⟩ := Int.eq_ofNat_of_zero_le hy0
  rw [e, show ((a : Int) * 4 + (b : Int)) = ((2 ^ 2 * a + b : Nat) : Int) from by omega, bits_or_nat _ _ (by omega) (by omega)]
  rw [Nat.two_pow_add_eq_or_of_lt (by omega : b < 2 ^ 2) a, Nat.or_assoc, ← Nat.two_pow_add_eq_or_of_lt (by have := or_lt4 b (by omega) c (by omega); omega) a]
  simp only [Int.toNat_natCast]
  omega
theorem has_facts (s x y : Int) (hs : U64 s) (h60 : s < 1152921504606846976) (hx0 : 0 ≤ x) (hx : x < 4) (hy0 : 0 ≤ y) (hy : y < 4) :
    hasF (bits .or .u64 (flagF s x) y) x = true ∧ hasF (bits .or .u64 (flagF s x) y) y = true ∧ (stampF (bits .or .u64 (flagF s x) y) == s) = true ∧
    (flagF (s + 1) x == IntKind.u64.wrap (flagF s x + 4)) = true ∧ (hasF (flagF s x) y == (bits .or .u64 (flagF s x) y == flagF s x)) = true ∧ U64 (bits .or .u64 (flagF s x) y) := by
  have hs0 := hs.1
  have e : flagF s x = s * 4 + x := by rw [flag_eq s x hs]; omega
  have e' : flagF (s + 1) x = (s + 1) * 4 + x := by rw [flag_eq (s + 1) x ⟨by omega, by omega⟩]; omega
  rw [or_flag s x y hs h60 hx0 hx hy0 hy, e, e', IntKind.wrap_u64]
  have hx' : x = 0 ∨ x = 1 ∨ x = 2 ∨ x = 3 := by omega
  have hy' : y = 0 ∨ y = 1 ∨ y = 2 ∨ y = 3 := by omega
  rcases hx' with rfl | rfl | rfl | rfl <;> rcases hy' with rfl | rfl | rfl | rfl <;>
    (refine ⟨?_, ?_, ?_, ?_, ?_, ?_⟩ <;> (first | rw [beq_iff_eq, Bool.eq_iff_iff] | skip) <;> simp [hasF, hasB, stampF, U64] <;> omega)
/-- the walk -/
theorem has_walk (a b c : Int) (wa : U64 a) (hb0 : 0 ≤ b) (hb : b < 256) (hc0 : 0 ≤ c) (hc : c < 256) (w : World) :
    Calls Try.prog 12 #[.int .u64 a, .int .u8 b, .int .u8 c] w fun e w' => e = .returned (.bool true) ∧ w = w' := by
  have h0 := wa.1
  have h1 := wa.2
  have hs : U64 (a / 16) := ⟨by omega, by omega⟩
  obtain ⟨f1, f2, f3, f4, f5, f6⟩ := has_facts (a / 16) (b % 4) (c % 4) hs (by omega) (by omega) (by omega) (by omega) (by omega)
  have u1 := flag_u64 (a / 16) (b % 4) hs
  go_enter Try.func12, Try.ntmps12
  go_wp2_with (first
    | (go_at_call 23; refine (shown8_any _).mono ?_; rintro e w' ⟨rfl, rfl⟩)
    | (go_at_call 33; refine (flag_any _ _ _).mono ?_; rintro e w' ⟨rfl, rfl⟩)
    | (go_at_call 35; refine (stamp_any _ _).mono ?_; rintro e w' ⟨rfl, rfl⟩)
    | (go_at_call 37; refine (has_any _ _ (by assumption) _).mono ?_; rintro e w' ⟨rfl, rfl⟩))
  go_ret
  exact ⟨rfl, rfl⟩
set_option maxRecDepth 100000 in
theorem WordHas_lifted (os : Os) (started : os.Started) (H : Type) (enc : TypeId × Value → H) :
    ReturnsInHanded {} Try.checked os 12 .any (Rows.wordHasSpec.pre6 enc Try.prog Try.f12 Rows.wordHasRow.domain false) (Rows.wordHasSpec.post enc Try.prog Try.f12 false true false false) := by
  refine law_row os started H enc Rows.wordHasSpec rfl (fun ds h => by
    match ds, h with
    | [_, _, _], _ => rfl) (by kernel_rfl) Try.func12 rfl
    (by rw [Try.params12]; intro t ht; simp at ht; rcases ht with rfl | rfl | rfl <;> exact ⟨by kernel_rfl, of_decide_eq_true (by kernel_rfl)⟩)
    (ChangeSpec.witness6 (enc := enc) (C := Try.checked) false ⟨#[], #[.int .u64 0, .int .u8 0, .int .u8 0], []⟩ 8 (by kernel_rfl) (by kernel_rfl) (by kernel_rfl) (by kernel_rfl)) ?_
  intro W base args ds ps hval hA hlt
  rw [Try.params12] at hA hval
  obtain ⟨v0, v1, v2, d0, d1, d2, p0, p1, p2, rfl, rfl, rfl, h0, h1, h2⟩ := trodAll_three hA
  obtain ⟨a0, rfl, rfl, rfl, w0⟩ := open_int Try.underlying37 (hval 0 _ v0 rfl rfl) h0
  obtain ⟨a1, rfl, rfl, rfl, w1⟩ := open_int Try.underlying5 (hval 1 _ v1 rfl rfl) h1
  obtain ⟨a2, rfl, rfl, rfl, w2⟩ := open_int Try.underlying5 (hval 2 _ v2 rfl rfl) h2
  have b0 := wf_u64 w0
  have b1 := wf_u8 w1
  have b2 := wf_u8 w2
  refine (has_walk a0 a1 a2 b0 b1.1 b1.2 b2.1 b2.2 W).mono fun e W' ⟨he, hw⟩ => ?_
  subst hw
  exact ⟨he, Below.refl _ _⟩
theorem WordHas_holds : Rows.WordHasSaid :=
  OpenClaim.holds_of_wide 12 Try.f12 rfl rfl rfl rfl rfl rfl rfl ⟨rfl, rfl, rfl, rfl, rfl⟩ rfl rfl rfl rfl rfl (by kernel_rfl) Try.func12 (by kernel_rfl)
    (of_decide_eq_true (by kernel_rfl)) (by unfold Func.isWrapper; rw [if_neg (of_decide_eq_false (by kernel_rfl))]; exact ⟨rfl, rfl⟩)
    (fun os started H enc _ => WordHas_lifted os started H enc)
#print axioms WordHas_holds
end Go.Proofs.Ythncdpopacdekaa
