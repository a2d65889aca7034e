import Derived.Test.YthncdpopacdekaaChecked
import Derived.Test.YthncdpopacdekaaBits
import Derived.WalkKit
import Derived.Below
import Derived.Outline
namespace Go.Proofs.Ythncdpopacdekaa
open Go.RowKit

/-! What the words are, as numbers. -/
def isRef (r : Int) : Prop := 0 ≤ r ∧ r < 1048576
def linkF (r : Int) (m : Bool) : Int := IntKind.u64.wrap (IntKind.u64.wrap r * 2) + (if m then 1 else 0)
def refF (w : Int) : Int := w / 2 % 1048576
def markF (w : Int) : Bool := w % 2 == 1
def flagF (s b : Int) : Int := IntKind.u64.wrap (s * 4) + b % 4
def stampF (w : Int) : Int := w / 4
def hasF (w b : Int) : Bool := hasB w (b % 4)
def topF (r t : Int) : Int := bits .or .u64 (IntKind.u64.wrap r) (IntKind.u64.wrap (t * 1048576))
def firstF (w : Int) : Int := w % 1048576
def tagF (w : Int) : Int := w / 1048576
def endsF (u v : Int) : Int := bits .or .u64 (IntKind.u64.wrap u) (IntKind.u64.wrap (IntKind.u64.wrap v * 1048576))

theorem ret_int {k : IntKind} {a b : Int} (h : a = b) : Ending.returned (.int k a) = .returned (.int k b) := by rw [h]
theorem ret_bool {a b : Bool} (h : a = b) : Ending.returned (.bool a) = .returned (.bool b) := by rw [h]
theorem wrap64_small (n : Int) (h0 : 0 ≤ n) (h1 : n < 9223372036854775808) : wrap64 n = n := IntWalk.wrap64_in n ⟨by omega, by omega⟩
theorem wrap_u64_mod (n m : Int) (hm : (18446744073709551616 : Int) % m = 0) (_h : 0 < m) : IntKind.u64.wrap n % m = n % m := by
  rw [IntKind.wrap_u64]; exact Int.emod_emod_of_dvd n (Int.dvd_of_emod_eq_zero hm)

theorem top_ref {r t : Int} (h : isRef r) (_ht : U64 t) : topF r t = r + (t % 17592186044416) * 1048576 := by
  obtain ⟨h0, h1⟩ := h
  unfold topF
  have e : IntKind.u64.wrap r = r := by rw [IntKind.wrap_u64]; omega
  rw [e, or_20 _ _ (u64_wrap _) (by rw [IntKind.wrap_u64]; omega) h0 h1, IntKind.wrap_u64]
  omega
theorem ends_ref {u v : Int} (h : isRef u) (hv : isRef v) : endsF u v = u + v * 1048576 := by
  obtain ⟨h0, h1⟩ := h
  obtain ⟨v0, v1⟩ := hv
  unfold endsF
  have e : IntKind.u64.wrap u = u := by rw [IntKind.wrap_u64]; omega
  have e' : IntKind.u64.wrap v = v := by rw [IntKind.wrap_u64]; omega
  rw [e, e', or_20 _ _ (u64_wrap _) (by rw [IntKind.wrap_u64]; omega) h0 h1, IntKind.wrap_u64]
  omega
theorem link_ref {r : Int} (h : isRef r) (m : Bool) : linkF r m = 2 * r + (if m then 1 else 0) := by
  obtain ⟨h0, h1⟩ := h
  unfold linkF
  have e : IntKind.u64.wrap r = r := by rw [IntKind.wrap_u64]; omega
  rw [e, IntKind.wrap_u64]; cases m <;> simp <;> omega
theorem flag_eq (s b : Int) (_hs : U64 s) : flagF s b = s % 4611686018427387904 * 4 + b % 4 := by
  unfold flagF; rw [IntKind.wrap_u64]; omega
theorem flag_u64 (s b : Int) (hs : U64 s) : U64 (flagF s b) := by
  rw [flag_eq s b hs]; constructor <;> omega
theorem top_u64 (r t : Int) : U64 (topF r t) := by
  unfold topF
  obtain ⟨a, ha, ha'⟩ := (u64_wrap r).nat
  obtain ⟨b, hb, hb'⟩ := (u64_wrap (t * 1048576)).nat
  rw [ha, hb, bits_or_nat a b ha' hb']
  have hx : a ||| b < 2 ^ 64 := Nat.or_lt_two_pow (by omega) (by omega)
  exact ⟨by omega, by omega⟩
theorem ends_u64 (u v : Int) : U64 (endsF u v) := by
  unfold endsF
  obtain ⟨a, ha, ha'⟩ := (u64_wrap u).nat
  obtain ⟨b, hb, hb'⟩ := (u64_wrap (IntKind.u64.wrap v * 1048576)).nat
  rw [ha, hb, bits_or_nat a b ha' hb']
  have hx : a ||| b < 2 ^ 64 := Nat.or_lt_two_pow (by omega) (by omega)
  exact ⟨by omega, by omega⟩

/-! The program's text. -/
theorem link_any (r : Int) (m : Bool) (w : World) :
    Calls Try.prog 27 #[.int .i64 r, .bool m] w fun e w' => e = .returned (.int .u64 (linkF r m)) ∧ w = w' := by
  cases m
  · go_enter Try.func27, Try.ntmps27
    go_wp2
    go_ret
    exact ⟨ret_int (by simp [linkF]), rfl⟩
  · go_enter Try.func27, Try.ntmps27
    go_wp2
    go_ret
    refine ⟨ret_int ?_, rfl⟩
    show bits BinOp.or IntKind.u64 (IntKind.u64.wrap (IntKind.u64.wrap r * 2)) 1 = _
    rw [or_1 _ (u64_wrap _) (by rw [IntKind.wrap_u64]; omega)]; simp [linkF]
theorem ref_any (n : Int) (h : U64 n) (w : World) :
    Calls Try.prog 29 #[.int .u64 n] w fun e w' => e = .returned (.int .i64 (refF n)) ∧ w = w' := by
  go_enter Try.func29, Try.ntmps29
  go_wp2
  go_ret
  refine ⟨ret_int ?_, rfl⟩
  show wrap64 (bits .and .u64 (n / 2) 1048575) = _
  rw [and_20 _ ⟨by have := h.1; omega, by have := h.1; have := h.2; omega⟩, wrap64_small _ (by omega) (by omega)]; rfl
theorem mark_any (n : Int) (h : U64 n) (w : World) :
    Calls Try.prog 31 #[.int .u64 n] w fun e w' => e = .returned (.bool (markF n)) ∧ w = w' := by
  go_enter Try.func31, Try.ntmps31
  go_wp2
  go_ret
  refine ⟨ret_bool ?_, rfl⟩
  show (bits .and .u64 n 1 == 1) = _
  rw [and_1 _ h]; rfl
theorem flag_any (s b : Int) (w : World) :
    Calls Try.prog 33 #[.int .u64 s, .int .i64 b] w fun e w' => e = .returned (.int .u64 (flagF s b)) ∧ w = w' := by
  go_enter Try.func33, Try.ntmps33
  go_wp2
  go_ret
  refine ⟨ret_int ?_, rfl⟩
  show bits .or .u64 (IntKind.u64.wrap (s * 4)) (bits .and .u64 (IntKind.u64.wrap b) 3) = _
  rw [and_3 _ (u64_wrap _), wrap_u64_mod b 4 rfl (by omega), or_2 _ _ (u64_wrap _) (by rw [IntKind.wrap_u64]; omega) (by omega) (by omega)]; rfl
theorem stamp_any (n : Int) (w : World) :
    Calls Try.prog 35 #[.int .u64 n] w fun e w' => e = .returned (.int .u64 (stampF n)) ∧ w = w' := by
  go_enter Try.func35, Try.ntmps35
  go_wp2
  go_ret
  exact ⟨rfl, rfl⟩
theorem has_any (n b : Int) (h : U64 n) (w : World) :
    Calls Try.prog 37 #[.int .u64 n, .int .i64 b] w fun e w' => e = .returned (.bool (hasF n b)) ∧ w = w' := by
  go_enter Try.func37, Try.ntmps37
  go_wp2
  go_ret
  refine ⟨ret_bool ?_, rfl⟩
  show (bits .and .u64 n (bits .and .u64 (IntKind.u64.wrap b) 3) == bits .and .u64 (IntKind.u64.wrap b) 3) = _
  rw [and_3 _ (u64_wrap _), wrap_u64_mod b 4 rfl (by omega), and_has _ _ h (by omega) (by omega)]; rfl
theorem top_any (r t : Int) (w : World) :
    Calls Try.prog 39 #[.int .i64 r, .int .u64 t] w fun e w' => e = .returned (.int .u64 (topF r t)) ∧ w = w' := by
  go_enter Try.func39, Try.ntmps39
  go_wp2
  go_ret
  exact ⟨rfl, rfl⟩
theorem first_any (n : Int) (h : U64 n) (w : World) :
    Calls Try.prog 41 #[.int .u64 n] w fun e w' => e = .returned (.int .i64 (firstF n)) ∧ w = w' := by
  go_enter Try.func41, Try.ntmps41
  go_wp2
  go_ret
  refine ⟨ret_int ?_, rfl⟩
  show wrap64 (bits .and .u64 n 1048575) = _
  rw [and_20 _ h, wrap64_small _ (by omega) (by omega)]; rfl
theorem tag_any (n : Int) (w : World) :
    Calls Try.prog 43 #[.int .u64 n] w fun e w' => e = .returned (.int .u64 (tagF n)) ∧ w = w' := by
  go_enter Try.func43, Try.ntmps43
  go_wp2
  go_ret
  exact ⟨rfl, rfl⟩
theorem ends_any (u v : Int) (w : World) :
    Calls Try.prog 45 #[.int .i64 u, .int .i64 v] w fun e w' => e = .returned (.int .u64 (endsF u v)) ∧ w = w' := by
  go_enter Try.func45, Try.ntmps45
  go_wp2
  go_ret
  exact ⟨rfl, rfl⟩
theorem pair_any (n : Int) (h : U64 n) (w : World) :
    Calls Try.prog 25 #[.int .u64 n] w fun e w' => e = .returned (.tuple #[.int .i64 (firstF n), .int .i64 (firstF (tagF n))]) ∧ w = w' := by
  go_enter Try.func25, Try.ntmps25
  go_wp2
  go_ret2
  refine ⟨?_, rfl⟩
  show Ending.returned (.tuple #[.int .i64 (wrap64 (bits .and .u64 n 1048575)), .int .i64 (wrap64 (bits .and .u64 (n / 1048576) 1048575))]) = _
  rw [and_20 _ h, and_20 _ ⟨by have := h.1; omega, by have := h.1; have := h.2; omega⟩, wrap64_small _ (by omega) (by omega), wrap64_small _ (by omega) (by omega)]; rfl
end Go.Proofs.Ythncdpopacdekaa
