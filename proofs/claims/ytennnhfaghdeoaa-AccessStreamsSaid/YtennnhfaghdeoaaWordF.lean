import Derived.Test.YtennnhfaghdeoaaBits
import Derived.WalkKit
import Derived.Below
namespace Go.Proofs.Ytennnhfaghdeoaa
open Go.RowKit

/-! What the words are, as numbers. -/
def isRef (r : Int) : Prop := 0 ≤ r ∧ r < 1048576
def linkF (r : Int) (m : Bool) : Int := IntKind.u64.wrap (IntKind.u64.wrap r * 2) + (if m then 1 else 0)
def refF (w : Int) : Int := w / 2 % 1048576
def markF (w : Int) : Bool := w % 2 == 1
def flagF (s b : Int) : Int := IntKind.u64.wrap (s * 4) + b % 4
def stampF (w : Int) : Int := w / 4
def hasF (w b : Int) : Bool := hasB w (b % 4)
def topF (r t : Int) : Int := bits .or .u64 (IntKind.u64.wrap r) (IntKind.u64.wrap (t * 1048576))
def firstF (w : Int) : Int := w % 1048576
def tagF (w : Int) : Int := w / 1048576
def endsF (u v : Int) : Int := bits .or .u64 (IntKind.u64.wrap u) (IntKind.u64.wrap (IntKind.u64.wrap v * 1048576))

theorem ret_int {k : IntKind} {a b : Int} (h : a = b) : Ending.returned (.int k a) = .returned (.int k b) := by rw [h]
theorem ret_bool {a b : Bool} (h : a = b) : Ending.returned (.bool a) = .returned (.bool b) := by rw [h]
theorem wrap64_small (n : Int) (h0 : 0 ≤ n) (h1 : n < 9223372036854775808) : wrap64 n = n := IntWalk.wrap64_in n ⟨by omega, by omega⟩
theorem wrap_u64_mod (n m : Int) (hm : (18446744073709551616 : Int) % m = 0) (_h : 0 < m) : IntKind.u64.wrap n % m = n % m := by
  rw [IntKind.wrap_u64]; exact Int.emod_emod_of_dvd n (Int.dvd_of_emod_eq_zero hm)

theorem top_ref {r t : Int} (h : isRef r) (_ht : U64 t) : topF r t = r + (t % 17592186044416) * 1048576 := by
  obtain ⟨h0, h1⟩ := h
  unfold topF
  have e : IntKind.u64.wrap r = r := by rw [IntKind.wrap_u64]; omega
  rw [e, or_20 _ _ (u64_wrap _) (by rw [IntKind.wrap_u64]; omega) h0 h1, IntKind.wrap_u64]
  omega
theorem ends_ref {u v : Int} (h : isRef u) (hv : isRef v) : endsF u v = u + v * 1048576 := by
  obtain ⟨h0, h1⟩ := h
  obtain ⟨v0, v1⟩ := hv
  unfold endsF
  have e : IntKind.u64.wrap u = u := by rw [IntKind.wrap_u64]; omega
  have e' : IntKind.u64.wrap v = v := by rw [IntKind.wrap_u64]; omega
  rw [e, e', or_20 _ _ (u64_wrap _) (by rw [IntKind.wrap_u64]; omega) h0 h1, IntKind.wrap_u64]
  omega
theorem link_ref {r : Int} (h : isRef r) (m : Bool) : linkF r m = 2 * r + (if m then 1 else 0) := by
  obtain ⟨h0, h1⟩ := h
  unfold linkF
  have e : IntKind.u64.wrap r = r := by rw [IntKind.wrap_u64]; omega
  rw [e, IntKind.wrap_u64]; cases m <;> simp <;> omega
theorem flag_eq (s b : Int) (_hs : U64 s) : flagF s b = s % 4611686018427387904 * 4 + b % 4 := by
  unfold flagF; rw [IntKind.wrap_u64]; omega
theorem flag_u64 (s b : Int) (hs : U64 s) : U64 (flagF s b) := by
  rw [flag_eq s b hs]; constructor <;> omega
theorem top_u64 (r t : Int) : U64 (topF r t) := by
  unfold topF
  obtain ⟨a, ha, ha'⟩ := (u64_wrap r).nat
  obtain ⟨b, hb, hb'⟩ := (u64_wrap (t * 1048576)).nat
  rw [ha, hb, bits_or_nat a b ha' hb']
  have hx : a ||| b < 2 ^ 64 := Nat.or_lt_two_pow (by omega) (by omega)
  exact ⟨by omega, by omega⟩
theorem ends_u64 (u v : Int) : U64 (endsF u v) := by
  unfold endsF
  obtain ⟨a, ha, ha'⟩ := (u64_wrap u).nat
  obtain ⟨b, hb, hb'⟩ := (u64_wrap (IntKind.u64.wrap v * 1048576)).nat
  rw [ha, hb, bits_or_nat a b ha' hb']
  have hx : a ||| b < 2 ^ 64 := Nat.or_lt_two_pow (by omega) (by omega)
  exact ⟨by omega, by omega⟩

/-! The program's text. -/
end Go.Proofs.Ytennnhfaghdeoaa
