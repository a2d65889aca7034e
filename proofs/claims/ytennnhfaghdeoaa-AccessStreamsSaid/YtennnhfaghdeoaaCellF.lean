import Derived.WalkKit
import Derived.Below
namespace Go.Proofs.Ytennnhfaghdeoaa
open Go.RowKit

/-! Memories' places and words, as numbers. -/
def mayB (t c : Int) : Bool := decide (1 ≤ t) && decide (t ≤ 64) && decide (0 ≤ c) && decide (c ≤ 65536)
theorem mayB_true {t c : Int} (h : mayB t c = true) : 1 ≤ t ∧ t ≤ 64 ∧ 0 ≤ c ∧ c ≤ 65536 := by
  simp [mayB] at h; omega
theorem mayB_of {t c : Int} (h : 1 ≤ t ∧ t ≤ 64 ∧ 0 ≤ c ∧ c ≤ 65536) : mayB t c = true := by
  simp [mayB]; omega
theorem mayB_not {t c : Int} (h : ¬ (1 ≤ t ∧ t ≤ 64 ∧ 0 ≤ c ∧ c ≤ 65536)) : mayB t c = false := by
  cases h' : mayB t c
  · rfl
  · exact absurd (mayB_true h') h
def rightM (t c : Int) (n : Nat) : Bool := mayB t c && ((n : Int) == 8 + t + 8 * c)
/-- how many words -/
def memL (t c : Nat) : Nat := 8 + t + 8 * c
/-- the words of a new memory, records ahead of r being linked -/
def newF (t c r i : Nat) : Int := if i = 1 then (min c 1 : Nat) else if 8 + t ≤ i ∧ (i - 8 - t) % 8 = 7 ∧ (i - 8 - t) / 8 + 1 < r then (((i - 8 - t) / 8 + 2 : Nat) : Int) else 0
def linkAt (t r : Nat) : Nat := 8 + t + 8 * (r - 1) + 7
theorem linkAt_lt {t c r : Nat} (h1 : 1 ≤ r) (h2 : r ≤ c) : linkAt t r < memL t c := by unfold linkAt memL; omega
theorem newF_step {t c r : Nat} (h1 : 1 ≤ r) (i : Nat) : newF t c (r + 1) i = if i = linkAt t r then ((r + 1 : Nat) : Int) else newF t c r i := by
  unfold newF linkAt
  by_cases hi : i = 1
  · rw [if_pos hi, if_neg (by omega), if_pos hi]
  · rw [if_neg hi, if_neg hi]
    by_cases hj : i = 8 + t + 8 * (r - 1) + 7
    · rw [if_pos hj, if_pos (by omega)]; congr 1; omega
    · rw [if_neg hj]
      by_cases hc : 8 + t ≤ i ∧ (i - 8 - t) % 8 = 7 ∧ (i - 8 - t) / 8 + 1 < r
      · rw [if_pos hc, if_pos (by omega)]
      · rw [if_neg hc, if_neg (by omega)]
theorem newF_zero (t c i : Nat) : newF t c 1 i = if i = 1 then ((min c 1 : Nat) : Int) else 0 := by
  unfold newF
  by_cases hi : i = 1
  · rw [if_pos hi, if_pos hi]
  · rw [if_neg hi, if_neg hi, if_neg (by omega)]
theorem newF_zero' (t c i : Nat) : newF t c 0 i = newF t c 1 i := by
  unfold newF
  by_cases hi : i = 1
  · rw [if_pos hi, if_pos hi]
  · rw [if_neg hi, if_neg hi, if_neg (by omega), if_neg (by omega)]
theorem newF_u64 {t c r i : Nat} (h1 : i < memL t c) (h2 : c ≤ 65536) : 0 ≤ newF t c r i ∧ newF t c r i ≤ 65537 := by
  unfold newF
  unfold memL at h1
  split
  · omega
  · split <;> omega
theorem newF_head {t c r : Nat} : newF t c r 1 = (min c 1 : Nat) := by simp [newF]
theorem newF_link {t c r : Nat} (h1 : 1 ≤ r) (h2 : r < c) : newF t c c (linkAt t r) = ((r + 1 : Nat) : Int) := by
  unfold newF linkAt
  rw [if_neg (by omega), if_pos (by omega)]; congr 1; omega
theorem newF_last {t c : Nat} (h1 : 1 ≤ c) : newF t c c (linkAt t c) = 0 := by
  unfold newF linkAt
  rw [if_neg (by omega), if_neg (by omega)]
/-- sums of words -/
def sumF (f : Nat → Int) : Nat → Int
  | 0 => 0
  | n + 1 => sumF f n + f n
theorem sumF_congr {f f' : Nat → Int} : ∀ {n : Nat}, (∀ i, i < n → f i = f' i) → sumF f n = sumF f' n
  | 0, _ => rfl
  | n + 1, h => by rw [sumF, sumF, sumF_congr (fun i hi => h i (by omega)), h n (by omega)]
theorem sumF_zero : ∀ n : Nat, sumF (fun _ => 0) n = 0
  | 0 => rfl
  | n + 1 => by rw [sumF, sumF_zero n]; rfl
theorem sumF_set {f : Nat → Int} {j : Nat} {v : Int} : ∀ {n : Nat}, j < n → sumF (fun i => if i = j then v else f i) n = sumF f n - f j + v
  | 0, h => by omega
  | n + 1, h => by
    rw [sumF, sumF]
    rcases Nat.lt_or_ge j n with h' | h'
    · rw [sumF_set h', if_neg (by omega)]; omega
    · obtain rfl : j = n := by omega
      rw [if_pos rfl, sumF_congr (f' := f) (fun i hi => by rw [if_neg (by omega)])]; omega
theorem sumF_le {f : Nat → Int} {m : Int} : ∀ {n : Nat}, (∀ i, i < n → 0 ≤ f i ∧ f i ≤ m) → 0 ≤ sumF f n ∧ sumF f n ≤ n * m
  | 0, _ => by simp [sumF]
  | n + 1, h => by
    have h1 := sumF_le (n := n) (fun i hi => h i (by omega))
    have h2 := h n (by omega)
    rw [sumF, show ((n + 1 : Nat) : Int) = (n : Int) + 1 by omega, Int.add_mul]
    omega
theorem newF_sum {t c : Nat} : ∀ {r : Nat}, 1 ≤ r → r ≤ c → sumF (newF t c r) (memL t c) = ((r * (r + 1) / 2 : Nat) : Int)
  | 0, h, _ => by omega
  | 1, _, hc => by
    have e : sumF (newF t c 1) (memL t c) = sumF (fun i => if i = 1 then (1 : Int) else (fun _ => (0 : Int)) i) (memL t c) := sumF_congr fun i _ => by
      rw [newF_zero, show min c 1 = 1 by omega]; rfl
    rw [e, sumF_set (by unfold memL; omega), sumF_zero]; rfl
  | r + 2, _, hc => by
    have ih := newF_sum (t := t) (c := c) (r := r + 1) (by omega) (by omega)
    have e : sumF (newF t c (r + 2)) (memL t c) = sumF (fun i => if i = linkAt t (r + 1) then ((r + 2 : Nat) : Int) else newF t c (r + 1) i) (memL t c) := sumF_congr fun i _ => newF_step (by omega) i
    have h0 : newF t c (r + 1) (linkAt t (r + 1)) = 0 := by unfold newF linkAt; rw [if_neg (by omega), if_neg (by omega)]
    rw [e, sumF_set (linkAt_lt (by omega) (by omega)), ih, h0]
    have : (r + 2) * (r + 2 + 1) = (r + 1) * (r + 1 + 1) + 2 * (r + 2) := by simp only [Nat.add_mul, Nat.mul_add]; omega
    omega
theorem newF_sum0 (t : Nat) : sumF (newF t 0 0) (memL t 0) = 0 := by
  have e : sumF (newF t 0 0) (memL t 0) = sumF (fun _ => 0) (memL t 0) := sumF_congr fun i _ => by unfold newF; simp
  rw [e, sumF_zero]
/-- a record's word -/
def fieldN (t r f : Nat) : Nat := 8 + t + 8 * (r - 1) + f
theorem fieldN_lt {t c r f : Nat} (h1 : 1 ≤ r) (h2 : r ≤ c) (hf : f < 8) : fieldN t r f < memL t c := by unfold fieldN memL; omega
theorem newF_field {t c r f : Nat} (h1 : 1 ≤ r) (hf : f < 8) : newF t c c (fieldN t r f) = if f = 7 ∧ r < c then ((r + 1 : Nat) : Int) else 0 := by
  unfold newF fieldN
  rw [if_neg (by omega)]
  by_cases h : f = 7 ∧ r < c
  · rw [if_pos h, if_pos (by omega)]; congr 1; omega
  · rw [if_neg h, if_neg (by omega)]
end Go.Proofs.Ytennnhfaghdeoaa
