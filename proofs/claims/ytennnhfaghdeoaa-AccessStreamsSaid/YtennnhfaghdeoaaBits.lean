import Derived.WalkKit
import Derived.Below
import Derived.Outline
import Derived.Laws.Bits64
namespace Go.Proofs.Ytennnhfaghdeoaa
open Go.RowKit

def U64 (n : Int) : Prop := 0 ≤ n ∧ n < 18446744073709551616
theorem U64.nat {n : Int} (h : U64 n) : ∃ k : Nat, n = (k : Int) ∧ k < 18446744073709551616 := by
  obtain ⟨h0, h1⟩ := h
  exact ⟨n.toNat, by omega, by omega⟩
theorem u64_wrap (n : Int) : U64 (IntKind.u64.wrap n) := by
  rw [IntKind.wrap_u64]; exact ⟨by omega, by omega⟩

theorem ofInt_nat (a : Nat) (ha : a < 18446744073709551616) : (BitVec.ofInt 64 (a : Int)).toNat = a := by
  rw [BitVec.ofInt_natCast, BitVec.toNat_ofNat]; exact Nat.mod_eq_of_lt (by omega)

theorem bits_and_nat (a b : Nat) (ha : a < 18446744073709551616) (hb : b < 18446744073709551616) :
    bits .and .u64 (a : Int) (b : Int) = ((a &&& b : Nat) : Int) := by
  have hx : a &&& b ≤ a := Nat.and_le_left
  show IntKind.u64.wrap ((BitVec.ofInt 64 (a : Int) &&& BitVec.ofInt 64 (b : Int)).toNat : Int) = _
  rw [BitVec.toNat_and, ofInt_nat a ha, ofInt_nat b hb, IntKind.wrap_u64]
  omega
theorem bits_or_nat (a b : Nat) (ha : a < 18446744073709551616) (hb : b < 18446744073709551616) :
    bits .or .u64 (a : Int) (b : Int) = ((a ||| b : Nat) : Int) := by
  have hx : a ||| b < 2 ^ 64 := Nat.or_lt_two_pow (by omega) (by omega)
  show IntKind.u64.wrap ((BitVec.ofInt 64 (a : Int) ||| BitVec.ofInt 64 (b : Int)).toNat : Int) = _
  rw [BitVec.toNat_or, ofInt_nat a ha, ofInt_nat b hb, IntKind.wrap_u64]
  omega

theorem and_1 (n : Int) (h : U64 n) : bits .and .u64 n 1 = n % 2 := by
  obtain ⟨k, rfl, hk⟩ := h.nat
  rw [show (1 : Int) = ((1 : Nat) : Int) from rfl, bits_and_nat k 1 hk (by omega)]
  rw [show k &&& 1 = k % 2 from Nat.and_two_pow_sub_one_eq_mod k 1]
  omega
theorem and_3 (n : Int) (h : U64 n) : bits .and .u64 n 3 = n % 4 := by
  obtain ⟨k, rfl, hk⟩ := h.nat
  rw [show (3 : Int) = ((3 : Nat) : Int) from rfl, bits_and_nat k 3 hk (by omega)]
  rw [show k &&& 3 = k % 4 from Nat.and_two_pow_sub_one_eq_mod k 2]
  omega
theorem and_20 (n : Int) (h : U64 n) : bits .and .u64 n 1048575 = n % 1048576 := by
  obtain ⟨k, rfl, hk⟩ := h.nat
  rw [show (1048575 : Int) = ((1048575 : Nat) : Int) from rfl, bits_and_nat k 1048575 hk (by omega)]
  rw [show k &&& 1048575 = k % 1048576 from Nat.and_two_pow_sub_one_eq_mod k 20]
  omega
theorem or_low (i : Nat) (a b : Nat) (hb : b < 2 ^ i) : (2 ^ i * a) ||| b = 2 ^ i * a + b := (Nat.two_pow_add_eq_or_of_lt hb a).symm

/-- a multiple of 4 with two bits below. -/
theorem or_2 (n m : Int) (h : U64 n) (h4 : n % 4 = 0) (h0 : 0 ≤ m) (h1 : m < 4) : bits .or .u64 n m = n + m := by
  obtain ⟨k, rfl, hk⟩ := h.nat
  obtain ⟨j, rfl⟩ := Int.eq_ofNat_of_zero_le h0
  rw [bits_or_nat k j hk (by omega)]
  have e : k = 2 ^ 2 * (k / 4) := by omega
  rw [e, or_low 2 (k / 4) j (by omega)]
  omega
theorem or_1 (n : Int) (h : U64 n) (h4 : n % 2 = 0) : bits .or .u64 n 1 = n + 1 := by
  obtain ⟨k, rfl, hk⟩ := h.nat
  rw [show (1 : Int) = ((1 : Nat) : Int) from rfl, bits_or_nat k 1 hk (by omega)]
  have e : k = 2 ^ 1 * (k / 2) := by omega
  rw [e, or_low 1 (k / 2) 1 (by omega)]
  omega
theorem or_20 (n m : Int) (h : U64 n) (h4 : n % 1048576 = 0) (h0 : 0 ≤ m) (h1 : m < 1048576) : bits .or .u64 m n = m + n := by
  obtain ⟨k, rfl, hk⟩ := h.nat
  obtain ⟨j, rfl⟩ := Int.eq_ofNat_of_zero_le h0
  rw [bits_or_nat j k (by omega) hk, Nat.or_comm]
  have e : k = 2 ^ 20 * (k / 1048576) := by omega
  rw [e, or_low 20 (k / 1048576) j (by omega)]
  omega
/-- which of two bits. -/
def hasB (w m : Int) : Bool := (m % 2 == 0 || w % 2 == 1) && (decide (m < 2) || w / 2 % 2 == 1)
theorem and_lt4 : ∀ a, a < 4 → ∀ b, b < 4 → (((a &&& b : Nat) == b) = ((b % 2 == 0 || a % 2 == 1) && (decide (b < 2) || a / 2 % 2 == 1))) := by decide
theorem and_has (w m : Int) (h : U64 w) (h0 : 0 ≤ m) (h1 : m < 4) : (bits .and .u64 w m == m) = hasB w m := by
  obtain ⟨k, rfl, hk⟩ := h.nat
  obtain ⟨j, rfl⟩ := Int.eq_ofNat_of_zero_le h0
  rw [bits_and_nat k j hk (by omega)]
  have e1 : k &&& j = (k % 4) &&& j := by
    have e : 3 &&& j = j := by rw [Nat.and_comm, show j &&& 3 = j % 4 from Nat.and_two_pow_sub_one_eq_mod j 2]; omega
    rw [← show k &&& 3 = k % 4 from Nat.and_two_pow_sub_one_eq_mod k 2, Nat.and_assoc, e]
  have e2 := and_lt4 (k % 4) (by omega) j (by omega)
  rw [e1]
  unfold hasB
  have e3 : (((k % 4 &&& j : Nat) : Int) == (j : Int)) = ((k % 4 &&& j : Nat) == j) := by
    rw [Bool.eq_iff_iff]; simp; omega
  rw [e3, e2, Bool.eq_iff_iff]
  simp only [Bool.and_eq_true, Bool.or_eq_true, beq_iff_eq, decide_eq_true_eq]
  omega
end Go.Proofs.Ytennnhfaghdeoaa
