import Derived.WalkKit
import Derived.Below
import Derived.Test.YtkdjmfaodojmfaaChecked
import Derived.Test.YtkdjmfaodojmfaaPoolAlonePartE
import Derived.Test.YtkdjmfaodojmfaaPoolAlonePartC
import Derived.LoopTactic
import Derived.Outline
import Derived.Deep.CutRange
import Derived.Test.YtkdjmfaodojmfaaPoolAlonePartB
import Derived.Test.YtkdjmfaodojmfaaPoolAlonePartA
import Derived.Lib.Hide
import Derived.Tactics
import Derived.RegionTactic
import Derived.Tactics2
import Derived.Defers
import Derived.Recover
import Derived.Laws.Pointers
namespace Go.Proofs.Ytkdjmfaodojmfaa
open Go.RowKit

/-! Memories' places and words, as numbers. -/
def mayB (t c : Int) : Bool := decide (1 ≤ t) && decide (t ≤ 64) && decide (0 ≤ c) && decide (c ≤ 65536)
theorem mayB_true {t c : Int} (h : mayB t c = true) : 1 ≤ t ∧ t ≤ 64 ∧ 0 ≤ c ∧ c ≤ 65536 := by
  simp [mayB] at h; omega
theorem mayB_of {t c : Int} (h : 1 ≤ t ∧ t ≤ 64 ∧ 0 ≤ c ∧ c ≤ 65536) : mayB t c = true := by
  simp [mayB]; omega
theorem mayB_not {t c : Int} (h : ¬ (1 ≤ t ∧ t ≤ 64 ∧ 0 ≤ c ∧ c ≤ 65536)) : mayB t c = false := by
  cases h' : mayB t c
  · rfl
  · exact absurd (mayB_true h') h
def rightM (t c : Int) (n : Nat) : Bool := mayB t c && ((n : Int) == 8 + t + 8 * c)
/-- how many words -/
def memL (t c : Nat) : Nat := 8 + t + 8 * c
/-- the words of a new memory, records ahead of r being linked -/
def newF (t c r i : Nat) : Int := if i = 1 then (min c 1 : Nat) else if 8 + t ≤ i ∧ (i - 8 - t) % 8 = 7 ∧ (i - 8 - t) / 8 + 1 < r then (((i - 8 - t) / 8 + 2 : Nat) : Int) else 0
def linkAt (t r : Nat) : Nat := 8 + t + 8 * (r - 1) + 7
theorem linkAt_lt {t c r : Nat} (h1 : 1 ≤ r) (h2 : r ≤ c) : linkAt t r < memL t c := by unfold linkAt memL; omega
theorem newF_step {t c r : Nat} (h1 : 1 ≤ r) (i : Nat) : newF t c (r + 1) i = if i = linkAt t r then ((r + 1 : Nat) : Int) else newF t c r i := by
  unfold newF linkAt
  by_cases hi : i = 1
  · rw [if_pos hi, if_neg (by omega), if_pos hi]
  · rw [if_neg hi, if_neg hi]
    by_cases hj : i = 8 + t + 8 * (r - 1) + 7
    · rw [if_pos hj, if_pos (by omega)]; congr 1; omega
    · rw [if_neg hj]
      by_cases hc : 8 + t ≤ i ∧ (i - 8 - t) % 8 = 7 ∧ (i - 8 - t) / 8 + 1 < r
      · rw [if_pos hc, if_pos (by omega)]
      · rw [if_neg hc, if_neg (by omega)]
theorem newF_zero (t c i : Nat) : newF t c 1 i = if i = 1 then ((min c 1 : Nat) : Int) else 0 := by
  unfold newF
  by_cases hi : i = 1
  · rw [if_pos hi, if_pos hi]
  · rw [if_neg hi, if_neg hi, if_neg (by omega)]
theorem newF_zero' (t c i : Nat) : newF t c 0 i = newF t c 1 i := by
  unfold newF
  by_cases hi : i = 1
  · rw [if_pos hi, if_pos hi]
  · rw [if_neg hi, if_neg hi, if_neg (by omega), if_neg (by omega)]
theorem newF_u64 {t c r i : Nat} (h1 : i < memL t c) (h2 : c ≤ 65536) : 0 ≤ newF t c r i ∧ newF t c r i ≤ 65537 := by
  unfold newF
  unfold memL at h1
  split
  · omega
  · split <;> omega
theorem newF_head {t c r : Nat} : newF t c r 1 = (min c 1 : Nat) := by simp [newF]
theorem newF_link {t c r : Nat} (h1 : 1 ≤ r) (h2 : r < c) : newF t c c (linkAt t r) = ((r + 1 : Nat) : Int) := by
  unfold newF linkAt
  rw [if_neg (by omega), if_pos (by omega)]; congr 1; omega
theorem newF_last {t c : Nat} (h1 : 1 ≤ c) : newF t c c (linkAt t c) = 0 := by
  unfold newF linkAt
  rw [if_neg (by omega), if_neg (by omega)]
/-- sums of words -/
def sumF (f : Nat → Int) : Nat → Int
  | 0 => 0
  | n + 1 => sumF f n + f n
theorem sumF_congr {f f' : Nat → Int} : ∀ {n : Nat}, (∀ i, i < n → f i = f' i) → sumF f n = sumF f' n
  | 0, _ => rfl
  | n + 1, h => by rw [sumF, sumF, sumF_congr (fun i hi => h i (by omega)), h n (by omega)]
theorem sumF_zero : ∀ n : Nat, sumF (fun _ => 0) n = 0
  | 0 => rfl
  | n + 1 => by rw [sumF, sumF_zero n]; rfl
theorem sumF_set {f : Nat → Int} {j : Nat} {v : Int} : ∀ {n : Nat}, j < n → sumF (fun i => if i = j then v else f i) n = sumF f n - f j + v
  | 0, h => by omega
  | n + 1, h => by
    rw [sumF, sumF]
    rcases Nat.lt_or_ge j n with h' | h'
    · rw [sumF_set h', if_neg (by omega)]; omega
    · obtain rfl : j = n := by omega
      rw [if_pos rfl, sumF_congr (f' := f) (fun i hi => by rw [if_neg (by omega)])]; omega
theorem sumF_le {f : Nat → Int} {m : Int} : ∀ {n : Nat}, (∀ i, i < n → 0 ≤ f i ∧ f i ≤ m) → 0 ≤ sumF f n ∧ sumF f n ≤ n * m
  | 0, _ => by simp [sumF]
  | n + 1, h => by
    have h1 := sumF_le (n := n) (fun i hi => h i (by omega))
    have h2 := h n (by omega)
    rw [sumF, show ((n + 1 : Nat) : Int) = (n : Int) + 1 by omega, Int.add_mul]
    omega
theorem newF_sum {t c : Nat} : ∀ {r : Nat}, 1 ≤ r → r ≤ c → sumF (newF t c r) (memL t c) = ((r * (r + 1) / 2 : Nat) : Int)
  | 0, h, _ => by omega
  | 1, _, hc => by
    have e : sumF (newF t c 1) (memL t c) = sumF (fun i => if i = 1 then (1 : Int) else (fun _ => (0 : Int)) i) (memL t c) := sumF_congr fun i _ => by
      rw [newF_zero, show min c 1 = 1 by omega]; rfl
    rw [e, sumF_set (by unfold memL; omega), sumF_zero]; rfl
  | r + 2, _, hc => by
    have ih := newF_sum (t := t) (c := c) (r := r + 1) (by omega) (by omega)
    have e : sumF (newF t c (r + 2)) (memL t c) = sumF (fun i => if i = linkAt t (r + 1) then ((r + 2 : Nat) : Int) else newF t c (r + 1) i) (memL t c) := sumF_congr fun i _ => newF_step (by omega) i
    have h0 : newF t c (r + 1) (linkAt t (r + 1)) = 0 := by unfold newF linkAt; rw [if_neg (by omega), if_neg (by omega)]
    rw [e, sumF_set (linkAt_lt (by omega) (by omega)), ih, h0]
    have : (r + 2) * (r + 2 + 1) = (r + 1) * (r + 1 + 1) + 2 * (r + 2) := by simp only [Nat.add_mul, Nat.mul_add]; omega
    omega
theorem newF_sum0 (t : Nat) : sumF (newF t 0 0) (memL t 0) = 0 := by
  have e : sumF (newF t 0 0) (memL t 0) = sumF (fun _ => 0) (memL t 0) := sumF_congr fun i _ => by unfold newF; simp
  rw [e, sumF_zero]
/-- a record's word -/
def fieldN (t r f : Nat) : Nat := 8 + t + 8 * (r - 1) + f
theorem fieldN_lt {t c r f : Nat} (h1 : 1 ≤ r) (h2 : r ≤ c) (hf : f < 8) : fieldN t r f < memL t c := by unfold fieldN memL; omega
theorem newF_field {t c r f : Nat} (h1 : 1 ≤ r) (hf : f < 8) : newF t c c (fieldN t r f) = if f = 7 ∧ r < c then ((r + 1 : Nat) : Int) else 0 := by
  unfold newF fieldN
  rw [if_neg (by omega)]
  by_cases h : f = 7 ∧ r < c
  · rw [if_pos h, if_pos (by omega)]; congr 1; omega
  · rw [if_neg h, if_neg (by omega)]
end Go.Proofs.Ytkdjmfaodojmfaa

namespace Go.Proofs.Ytkdjmfaodojmfaa
open Go.RowKit

/-! Package cell. -/
theorem may_any (t c : Int) (w : World) :
  Calls Try.prog 118 #[.int .i64 t, .int .i64 c] w fun e w' => e = .returned (.bool (mayB t c)) ∧ w = w' := by
 have h : (mayB t c = true ∧ 1 ≤ t ∧ t ≤ 64 ∧ 0 ≤ c ∧ c ≤ 65536) ∨ (mayB t c = false ∧ ((¬ 1 ≤ t) ∨ (1 ≤ t ∧ ¬ t ≤ 64) ∨ (1 ≤ t ∧ t ≤ 64 ∧ ¬ 0 ≤ c) ∨ (1 ≤ t ∧ t ≤ 64 ∧ 0 ≤ c ∧ ¬ c ≤ 65536))) := by
  by_cases h : 1 ≤ t ∧ t ≤ 64 ∧ 0 ≤ c ∧ c ≤ 65536
  ·exact .inl ⟨mayB_of h, h⟩
  ·exact .inr ⟨mayB_not h, by omega⟩
 rcases h with ⟨h, h1, h2, h3, h4⟩ | ⟨h, h1 | ⟨h1, h2⟩ | ⟨h1, h2, h3⟩ | ⟨h1, h2, h3, h4⟩⟩
 all_goals
  rw [h]
  clear h
  go_enter Try.func118, Try.ntmps118
  go_wp2
  all_goals go_ret
  all_goals exact ⟨by simp [*], rfl⟩
theorem size_any (t c : Int) (h1 : -1000000 ≤ t) (h2 : t ≤ 1000000) (h3 : -1000000 ≤ c) (h4 : c ≤ 2000000) (w : World) :
  Calls Try.prog 119 #[.int .i64 t, .int .i64 c] w fun e w' => e = .returned (.int .i64 (8 + t + 8 * c)) ∧ w = w' := by
 go_enter Try.func119, Try.ntmps119
 go_wp2
 go_ret
 exact ⟨rfl, rfl⟩
theorem pin_any (i : Int) (h1 : -1000000 ≤ i) (h2 : i ≤ 1000000) (w : World) :
  Calls Try.prog 62 #[.int .i64 i] w fun e w' => e = .returned (.int .i64 (8 + i)) ∧ w = w' := by
 go_enter Try.func62, Try.ntmps62
 go_wp2
 go_ret
 exact ⟨rfl, rfl⟩
theorem field_any (t r f : Int) (h1 : -1000000 ≤ t) (h2 : t ≤ 1000000) (h3 : -100000 ≤ r) (h4 : r ≤ 2000000) (h5 : -1000000 ≤ f) (h6 : f ≤ 1000000) (w : World) :
  Calls Try.prog 64 #[.int .i64 t, .int .i64 r, .int .i64 f] w fun e w' => e = .returned (.int .i64 (8 + t + 8 * (r - 1) + f)) ∧ w = w' := by
 go_enter Try.func64, Try.ntmps64
 go_wp2_with (go_at_call 119; refine (size_any t (r - 1) (by omega) (by omega) (by omega) (by omega) _).mono ?_; rintro e w' ⟨rfl, rfl⟩)
 go_ret
 exact ⟨rfl, rfl⟩
theorem field_link (t r : Nat) (h1 : 1 ≤ r) (ht : t ≤ 64) (hr : r ≤ 65536) (w : World) :
  Calls Try.prog 64 #[.int .i64 t, .int .i64 r, .int .i64 7] w fun e w' => e = .returned (.int .i64 (linkAt t r : Nat)) ∧ w = w' :=
 (field_any t r 7 (by omega) (by omega) (by omega) (by omega) (by omega) (by omega) w).mono fun _ _ ⟨he, hw⟩ => ⟨by rw [he]; congr 2; unfold linkAt; omega, hw⟩
theorem top_any (r t : Int) (w : World) :
  Calls Try.prog 45 #[.int .i64 r, .int .u64 t] w fun e w' => e = .returned (.int .u64 (topF r t)) ∧ w = w' := by
 go_enter Try.func45, Try.ntmps45
 go_wp2
 go_ret
 exact ⟨rfl, rfl⟩
theorem info_u64 : (Try.prog.info? 22).map (fun i => (i.zero, i.size, i.bytes)) = some (some (.int .u64 0), 1, 8) := by kernel_rfl
theorem new_no (t c : Int) (h : mayB t c = false) (w : World) :
  Calls Try.prog 57 #[.int .i64 t, .int .i64 c] w fun e w' => e = .returned (.tuple #[.agg #[.int .i64 0, .int .i64 0, .slice none 0 0], .int .i64 1]) ∧ Ext w w' := by
 go_enter Try.func57, Try.ntmps57
 go_wp2_with (go_at_call 118; refine (may_any _ _ _).mono ?_; rintro e w' ⟨rfl, rfl⟩)
 refine bodyPost_ret (v := .tuple #[.agg #[.int .i64 0, .int .i64 0, .slice none 0 0], .int .i64 1]) (by simp [results, Try.results57, go_sem]) rfl ⟨rfl, ?_⟩
 exact (Below.refl _ _).alloc (Nat.le_refl _) _
def nextF (t r : Int) : Int := if r = 0 then 0 else 8 + t + 8 * (r - 1)
theorem next_any (t r : Int) (h1 : -1000000 ≤ t) (h2 : t ≤ 1000000) (h3 : -100000 ≤ r) (h4 : r ≤ 1000000) (w : World) :
  Calls Try.prog 66 #[.int .i64 t, .int .i64 r] w fun e w' => e = .returned (.int .i64 (nextF t r)) ∧ w = w' := by
 by_cases h : r = 0
 ·subst h
  go_enter Try.func66, Try.ntmps66
  go_wp2
  go_ret
  exact ⟨rfl, rfl⟩
 ·have e : nextF t r = 8 + t + 8 * (r - 1) + 0 := by simp [nextF, h]
  rw [e]
  clear e
  go_enter Try.func66, Try.ntmps66
  go_wp2_with (go_at_call 64; refine (field_any t r 0 (by omega) (by omega) (by omega) (by omega) (by omega) (by omega) _).mono ?_; rintro e w' ⟨rfl, rfl⟩)
  go_ret
  exact ⟨ret_int (by omega), rfl⟩
set_option maxRecDepth 100000 in
theorem cright_any (t c : Int) (A : Option Addr) (n cp : Nat) (w : World) :
  Calls Try.prog 60 #[.agg #[.int .i64 t, .int .i64 c, .slice A n cp]] w fun e w' => e = .returned (.bool (rightM t c n)) ∧ Ext w w' := by
 have hE : Ext w (w.alloc (.cells #[.int .i64 t, .int .i64 c, .slice A n cp] 45)) := (Below.refl _ w).alloc (Nat.le_refl _) _
 have e0 : (w.alloc (.cells #[.int .i64 t, .int .i64 c, .slice A n cp] 45)).cell? ⟨w.heap.size, 0, none⟩ = some (.int .i64 t) := by simp [go_sem]
 have e1 : (w.alloc (.cells #[.int .i64 t, .int .i64 c, .slice A n cp] 45)).cell? ⟨w.heap.size, 1, none⟩ = some (.int .i64 c) := by simp [go_sem]
 have e2 : (w.alloc (.cells #[.int .i64 t, .int .i64 c, .slice A n cp] 45)).cell? ⟨w.heap.size, 2, none⟩ = some (.slice A n cp) := by simp [go_sem]
 have hbox : ∀ wx, Ext (w.alloc (.cells #[.int .i64 t, .int .i64 c, .slice A n cp] 45)).drew wx → wx.cell? ⟨w.heap.size, 0, none⟩ = some (.int .i64 t) ∧ wx.cell? ⟨w.heap.size, 1, none⟩ = some (.int .i64 c) ∧ wx.cell? ⟨w.heap.size, 2, none⟩ = some (.slice A n cp) := fun wx hx => ⟨hx.drawn.cell e0, hx.drawn.cell e1, hx.drawn.cell e2⟩
 have hEx : ∀ wx, Ext (w.alloc (.cells #[.int .i64 t, .int .i64 c, .slice A n cp] 45)).drew wx → Ext w wx := fun wx hx => hE.trans hx.drawn
 clear e0 e1 e2 hE
 cases h : mayB t c
 ·have hr : rightM t c n = false := by simp [rightM, h]
  rw [hr]
  clear hr
  go_enter Try.func60, Try.ntmps60
  go_wp2_with fail
  refine' wp_region_sure_all ⟨((some 3, [], none) :: (some 4, [0], none) :: (some 5, [], none) :: (some 6, [2], none) :: (some 7, [1, 3], none) :: (some 8, [4, 4], none) :: (some 9, [5], some (5, true)) :: (some 10, [6, 5], some (5, true)) :: (some 11, [7, 5], some (5, true)) :: (some 12, [5], some (5, true)) :: (some 13, [9, 5], some (5, true)) :: (some 14, [5], some (5, true)) :: (some 15, [11, 5], some (5, true)) :: (some 16, [10, 12, 5, 5], some (5, true)) :: (some 17, [8, 13, 5], some (5, true)) :: (some 18, [5, 14], none) :: (some 2, [15, 13, 0, 1, 2, 3, 4, 5, 6, 7, 8, 9, 10, 11, 12, 13, 14, 15], none) :: []), (0 :: 1 :: 0 :: 4 :: 15 :: 31 :: 63 :: 127 :: 255 :: 63 :: 575 :: 63 :: 2111 :: 7743 :: 16383 :: 32767 :: 65535 :: []), (true :: true :: true :: true :: true :: true :: true :: true :: true :: true :: true :: true :: true :: true :: true :: true :: true :: []), [], 0⟩ 17 19 ((0, 3) :: (1, 4) :: (2, 5) :: (3, 6) :: (4, 7) :: (5, 8) :: (6, 9) :: (7, 10) :: (8, 11) :: (9, 12) :: (10, 13) :: (11, 14) :: (12, 15) :: (13, 16) :: (14, 17) :: (15, 18) :: (16, 2) :: []) ((0, 3) :: (1, 4) :: (2, 5) :: (3, 6) :: (4, 7) :: (5, 8) :: (6, 9) :: (7, 10) :: (8, 11) :: (9, 12) :: (10, 13) :: (11, 14) :: (12, 15) :: (13, 16) :: (14, 17) :: (15, 18) :: (16, 2) :: []) (.det _ :: .det _ :: .det _ :: .det _ :: .det _ :: .det _ :: .det _ :: .det _ :: .det _ :: .det _ :: .det _ :: .det _ :: .det _ :: .det _ :: .det _ :: .det _ :: .det _ :: []) (by kernel_rfl) (by kernel_rfl) (by kernel_rfl) rfl (by kernel_rfl) (by kernel_rfl) rfl (by kernel_rfl) ?hone ?hend
  case hone =>
   intro CS frS VS hCS ha hV
   have qs1 := slot_val (t := 1) ha rfl
   simp only [List.getElem_toArray, List.getElem_cons_succ, List.getElem_cons_zero] at qs1
   have HCS := Lib.hid hCS
   have HVS := Lib.hid hV
   clear ha hCS hV
   refine sure_det (js := []) (ts := [1]) (gd := none) (place_at HVS.out (k := 0) rfl) (by rw [HCS.out]; kernel_rfl) ?_ ?_
   ·intro wx hx ρ hρ hs hf; have hρc := hρ.const; have hρf := hρ.func
    obtain ⟨fx1, -⟩ := hf; rw [qs1] at fx1
    clear hs
    clear HCS HVS qs1
    refine run_plain ?_
    unfold runs
    go_simp
    exact detK.mk
   refine sure_det (js := [(0, 3)]) (ts := []) (gd := none) (place_at HVS.out (k := 1) rfl) (by rw [HCS.out]; kernel_rfl) ?_ ?_
   ·intro wx hx ρ hρ hs hf; have hρc := hρ.const; have hρf := hρ.func; obtain ⟨sn0, -⟩ := hs; rw [place_at HVS.out (k := 0) rfl] at sn0; replace sn0 : ρ (.tmp 3) = _ := sn0
    clear hf
    clear HCS HVS qs1
    refine run_plain ?_
    obtain ⟨c0, c1, c2⟩ := hbox wx hx
    unfold runs
    go_simp
    exact detK.mk
   refine sure_det (js := []) (ts := [1]) (gd := none) (place_at HVS.out (k := 2) rfl) (by rw [HCS.out]; kernel_rfl) ?_ ?_
   ·intro wx hx ρ hρ hs hf; have hρc := hρ.const; have hρf := hρ.func
    obtain ⟨fx1, -⟩ := hf; rw [qs1] at fx1
    clear hs
    clear HCS HVS qs1
    refine run_plain ?_
    unfold runs
    go_simp
    exact detK.mk
   refine sure_det (js := [(2, 5)]) (ts := []) (gd := none) (place_at HVS.out (k := 3) rfl) (by rw [HCS.out]; kernel_rfl) ?_ ?_
   ·intro wx hx ρ hρ hs hf; have hρc := hρ.const; have hρf := hρ.func; obtain ⟨sn2, -⟩ := hs; rw [place_at HVS.out (k := 2) rfl] at sn2; replace sn2 : ρ (.tmp 5) = _ := sn2
    clear hf
    clear HCS HVS qs1
    refine run_plain ?_
    obtain ⟨c0, c1, c2⟩ := hbox wx hx
    unfold runs
    go_simp
    exact detK.mk
   refine sure_det (js := [(1, 4), (3, 6)]) (ts := []) (gd := none) (place_at HVS.out (k := 4) rfl) (by rw [HCS.out]; kernel_rfl) ?_ ?_
   ·intro wx hx ρ hρ hs hf; have hρc := hρ.const; have hρf := hρ.func; obtain ⟨sn1, sn3, -⟩ := hs; rw [place_at HVS.out (k := 1) rfl] at sn1; replace sn1 : ρ (.tmp 4) = _ := sn1; rw [place_at HVS.out (k := 3) rfl] at sn3; replace sn3 : ρ (.tmp 6) = _ := sn3
    clear hf
    clear HCS HVS qs1
    refine run_plain ?_
    refine op_call rfl hρ Try.call118 (map_two sn1 sn3) ?_
    refine Calls.mono (may_any t c _) ?_; rintro e w' ⟨rfl, rfl⟩; refine ⟨_, rfl, ?_⟩; rw [h]; exact detK.mk
   refine sure_det (js := [(4, 7)]) (ts := []) (gd := none) (place_at HVS.out (k := 5) rfl) (by rw [HCS.out]; kernel_rfl) ?_ ?_
   ·intro wx hx ρ hρ hs hf; have hρc := hρ.const; have hρf := hρ.func; obtain ⟨sn4, -⟩ := hs; rw [place_at HVS.out (k := 4) rfl] at sn4; replace sn4 : ρ (.tmp 7) = _ := sn4
    clear hf
    clear HCS HVS qs1
    refine run_plain ?_
    refine op_move rfl sn4 ?_
    exact detK.mk
   refine sure_det (js := [(5, 8)]) (ts := [1]) (gd := (some (8, true))) (place_at HVS.out (k := 6) rfl) (by rw [HCS.out]; kernel_rfl) ?_ ?_
   ·intro wx hx ρ hρ hs hf; have hρc := hρ.const; have hρf := hρ.func; obtain ⟨sn5, -⟩ := hs
    obtain ⟨fx1, -⟩ := hf; rw [qs1] at fx1; rw [place_at HVS.out (k := 5) rfl] at sn5; replace sn5 : ρ (.tmp 8) = _ := sn5
    clear HCS HVS qs1
    first
     | (refine run_passed sn5 ?_; exact detK.mk)
     | (refine run_guarded sn5 ?_; unfold runs; go_simp; exact detK.mk)
   refine sure_det (js := [(6, 9), (5, 8)]) (ts := []) (gd := (some (8, true))) (place_at HVS.out (k := 7) rfl) (by rw [HCS.out]; kernel_rfl) ?_ ?_
   ·intro wx hx ρ hρ hs hf; have hρc := hρ.const; have hρf := hρ.func; obtain ⟨sn6, sn5, -⟩ := hs; rw [place_at HVS.out (k := 6) rfl] at sn6; replace sn6 : ρ (.tmp 9) = _ := sn6; rw [place_at HVS.out (k := 5) rfl] at sn5; replace sn5 : ρ (.tmp 8) = _ := sn5
    clear hf
    clear HCS HVS qs1
    first
     | (refine run_passed sn5 ?_; exact detK.mk)
     | (refine run_guarded sn5 ?_; obtain ⟨c0, c1, c2⟩ := hbox wx hx; unfold runs; go_simp; exact detK.mk)
   refine sure_det (js := [(7, 10), (5, 8)]) (ts := []) (gd := (some (8, true))) (place_at HVS.out (k := 8) rfl) (by rw [HCS.out]; kernel_rfl) ?_ ?_
   ·intro wx hx ρ hρ hs hf; have hρc := hρ.const; have hρf := hρ.func; obtain ⟨sn7, sn5, -⟩ := hs; rw [place_at HVS.out (k := 7) rfl] at sn7; replace sn7 : ρ (.tmp 10) = _ := sn7; rw [place_at HVS.out (k := 5) rfl] at sn5; replace sn5 : ρ (.tmp 8) = _ := sn5
    clear hf
    clear HCS HVS qs1
    first
     | (refine run_passed sn5 ?_; exact detK.mk)
     | (refine run_guarded sn5 ?_; unfold runs; go_simp; exact detK.mk)
   refine sure_det (js := [(5, 8)]) (ts := [1]) (gd := (some (8, true))) (place_at HVS.out (k := 9) rfl) (by rw [HCS.out]; kernel_rfl) ?_ ?_
   ·intro wx hx ρ hρ hs hf; have hρc := hρ.const; have hρf := hρ.func; obtain ⟨sn5, -⟩ := hs
    obtain ⟨fx1, -⟩ := hf; rw [qs1] at fx1; rw [place_at HVS.out (k := 5) rfl] at sn5; replace sn5 : ρ (.tmp 8) = _ := sn5
    clear HCS HVS qs1
    first
     | (refine run_passed sn5 ?_; exact detK.mk)
     | (refine run_guarded sn5 ?_; unfold runs; go_simp; exact detK.mk)
   refine sure_det (js := [(9, 12), (5, 8)]) (ts := []) (gd := (some (8, true))) (place_at HVS.out (k := 10) rfl) (by rw [HCS.out]; kernel_rfl) ?_ ?_
   ·intro wx hx ρ hρ hs hf; have hρc := hρ.const; have hρf := hρ.func; obtain ⟨sn9, sn5, -⟩ := hs; rw [place_at HVS.out (k := 9) rfl] at sn9; replace sn9 : ρ (.tmp 12) = _ := sn9; rw [place_at HVS.out (k := 5) rfl] at sn5; replace sn5 : ρ (.tmp 8) = _ := sn5
    clear hf
    clear HCS HVS qs1
    first
     | (refine run_passed sn5 ?_; exact detK.mk)
     | (refine run_guarded sn5 ?_; obtain ⟨c0, c1, c2⟩ := hbox wx hx; unfold runs; go_simp; exact detK.mk)
   refine sure_det (js := [(5, 8)]) (ts := [1]) (gd := (some (8, true))) (place_at HVS.out (k := 11) rfl) (by rw [HCS.out]; kernel_rfl) ?_ ?_
   ·intro wx hx ρ hρ hs hf; have hρc := hρ.const; have hρf := hρ.func; obtain ⟨sn5, -⟩ := hs
    obtain ⟨fx1, -⟩ := hf; rw [qs1] at fx1; rw [place_at HVS.out (k := 5) rfl] at sn5; replace sn5 : ρ (.tmp 8) = _ := sn5
    clear HCS HVS qs1
    first
     | (refine run_passed sn5 ?_; exact detK.mk)
     | (refine run_guarded sn5 ?_; unfold runs; go_simp; exact detK.mk)
   refine sure_det (js := [(11, 14), (5, 8)]) (ts := []) (gd := (some (8, true))) (place_at HVS.out (k := 12) rfl) (by rw [HCS.out]; kernel_rfl) ?_ ?_
   ·intro wx hx ρ hρ hs hf; have hρc := hρ.const; have hρf := hρ.func; obtain ⟨sn11, sn5, -⟩ := hs; rw [place_at HVS.out (k := 11) rfl] at sn11; replace sn11 : ρ (.tmp 14) = _ := sn11; rw [place_at HVS.out (k := 5) rfl] at sn5; replace sn5 : ρ (.tmp 8) = _ := sn5
    clear hf
    clear HCS HVS qs1
    first
     | (refine run_passed sn5 ?_; exact detK.mk)
     | (refine run_guarded sn5 ?_; obtain ⟨c0, c1, c2⟩ := hbox wx hx; unfold runs; go_simp; exact detK.mk)
   refine sure_det (js := [(10, 13), (12, 15), (5, 8)]) (ts := []) (gd := (some (8, true))) (place_at HVS.out (k := 13) rfl) (by rw [HCS.out]; kernel_rfl) ?_ ?_
   ·intro wx hx ρ hρ hs hf; have hρc := hρ.const; have hρf := hρ.func; obtain ⟨sn10, sn12, sn5, -⟩ := hs; rw [place_at HVS.out (k := 10) rfl] at sn10; replace sn10 : ρ (.tmp 13) = _ := sn10; rw [place_at HVS.out (k := 12) rfl] at sn12; replace sn12 : ρ (.tmp 15) = _ := sn12; rw [place_at HVS.out (k := 5) rfl] at sn5; replace sn5 : ρ (.tmp 8) = _ := sn5
    clear hf
    clear HCS HVS qs1
    first
     | (refine run_passed sn5 ?_; exact detK.mk)
     | (refine run_guarded sn5 ?_; refine op_call rfl hρ Try.call119 (map_two sn10 sn12) ?_; refine Calls.mono (may_any t c _) ?_; rintro e w' ⟨rfl, rfl⟩; refine ⟨_, rfl, ?_⟩; rw [h]; exact detK.mk)
   refine sure_det (js := [(8, 11), (13, 16), (5, 8)]) (ts := []) (gd := (some (8, true))) (place_at HVS.out (k := 14) rfl) (by rw [HCS.out]; kernel_rfl) ?_ ?_
   ·intro wx hx ρ hρ hs hf; have hρc := hρ.const; have hρf := hρ.func; obtain ⟨sn8, sn13, sn5, -⟩ := hs; rw [place_at HVS.out (k := 8) rfl] at sn8; replace sn8 : ρ (.tmp 11) = _ := sn8; rw [place_at HVS.out (k := 13) rfl] at sn13; replace sn13 : ρ (.tmp 16) = _ := sn13; rw [place_at HVS.out (k := 5) rfl] at sn5; replace sn5 : ρ (.tmp 8) = _ := sn5
    clear hf
    clear HCS HVS qs1
    first
     | (refine run_passed sn5 ?_; exact detK.mk)
     | (refine run_guarded sn5 ?_; unfold runs; go_simp; exact detK.mk)
   refine sure_det (js := [(5, 8), (14, 17)]) (ts := []) (gd := none) (place_at HVS.out (k := 15) rfl) (by rw [HCS.out]; kernel_rfl) ?_ ?_
   ·intro wx hx ρ hρ hs hf; have hρc := hρ.const; have hρf := hρ.func; obtain ⟨sn5, sn14, -⟩ := hs; rw [place_at HVS.out (k := 5) rfl] at sn5; replace sn5 : ρ (.tmp 8) = _ := sn5; rw [place_at HVS.out (k := 14) rfl] at sn14; replace sn14 : ρ (.tmp 17) = _ := sn14
    clear hf
    clear HCS HVS qs1
    refine run_plain ?_
    first | refine op_pick_t rfl sn5 sn14 ?_ | refine op_pick_f rfl sn5 (hρ.const _) ?_
    exact detK.mk
   refine sure_det (js := [(15, 18)]) (ts := []) (gd := none) (place_at HVS.out (k := 16) rfl) (by rw [HCS.out]; kernel_rfl) ?_ ?_
   ·intro wx hx ρ hρ hs hf; have hρc := hρ.const; have hρf := hρ.func; obtain ⟨sn15, -⟩ := hs; rw [place_at HVS.out (k := 15) rfl] at sn15; replace sn15 : ρ (.tmp 18) = _ := sn15
    clear hf
    clear HCS HVS qs1
    refine run_plain ?_
    refine op_assign rfl sn15 ?_
    exact detK.mk
   exact trivial
  case hend =>
   intro xs wx hx hg
   have gk0 : xs 0 = _ := goods_get hg (i := 0) (j := 0) (d := 3) rfl
   have gk1 : xs 1 = _ := goods_get hg (i := 1) (j := 1) (d := 4) rfl
   have gk2 : xs 2 = _ := goods_get hg (i := 2) (j := 2) (d := 5) rfl
   have gk3 : xs 3 = _ := goods_get hg (i := 3) (j := 3) (d := 6) rfl
   have gk4 : xs 4 = _ := goods_get hg (i := 4) (j := 4) (d := 7) rfl
   have gk5 : xs 5 = _ := goods_get hg (i := 5) (j := 5) (d := 8) rfl
   have gk6 : xs 6 = _ := goods_get hg (i := 6) (j := 6) (d := 9) rfl
   have gk7 : xs 7 = _ := goods_get hg (i := 7) (j := 7) (d := 10) rfl
   have gk8 : xs 8 = _ := goods_get hg (i := 8) (j := 8) (d := 11) rfl
   have gk9 : xs 9 = _ := goods_get hg (i := 9) (j := 9) (d := 12) rfl
   have gk10 : xs 10 = _ := goods_get hg (i := 10) (j := 10) (d := 13) rfl
   have gk11 : xs 11 = _ := goods_get hg (i := 11) (j := 11) (d := 14) rfl
   have gk12 : xs 12 = _ := goods_get hg (i := 12) (j := 12) (d := 15) rfl
   have gk13 : xs 13 = _ := goods_get hg (i := 13) (j := 13) (d := 16) rfl
   have gk14 : xs 14 = _ := goods_get hg (i := 14) (j := 14) (d := 17) rfl
   have gk15 : xs 15 = _ := goods_get hg (i := 15) (j := 15) (d := 18) rfl
   have gk16 : xs 16 = _ := goods_get hg (i := 16) (j := 16) (d := 2) rfl
   clear hg
   simp only [putAll, gk0, gk1, gk2, gk3, gk4, gk5, gk6, gk7, gk8, gk9, gk10, gk11, gk12, gk13, gk14, gk15, gk16]
   clear gk0 gk1 gk2 gk3 gk4 gk5 gk6 gk7 gk8 gk9 gk10 gk11 gk12 gk13 gk14 gk15 gk16
   clear xs
   simp only [Act.put, List.setIfInBounds_toArray, List.set_cons_zero, List.set_cons_succ]
   go_wp2
   go_ret
   exact ⟨rfl, hEx wx hx⟩
 ·obtain ⟨b1, b2, b3, b4⟩ := mayB_true h
  have hr : rightM t c n = ((n : Int) == 8 + t + 8 * c) := by simp [rightM, h]
  rw [hr]
  clear hr
  go_enter Try.func60, Try.ntmps60
  go_wp2_with fail
  refine' wp_region_sure_all ⟨((some 3, [], none) :: (some 4, [0], none) :: (some 5, [], none) :: (some 6, [2], none) :: (some 7, [1, 3], none) :: (some 8, [4, 4], none) :: (some 9, [5], some (5, true)) :: (some 10, [6, 5], some (5, true)) :: (some 11, [7, 5], some (5, true)) :: (some 12, [5], some (5, true)) :: (some 13, [9, 5], some (5, true)) :: (some 14, [5], some (5, true)) :: (some 15, [11, 5], some (5, true)) :: (some 16, [10, 12, 5, 5], some (5, true)) :: (some 17, [8, 13, 5], some (5, true)) :: (some 18, [5, 14], none) :: (some 2, [15, 13, 0, 1, 2, 3, 4, 5, 6, 7, 8, 9, 10, 11, 12, 13, 14, 15], none) :: []), (0 :: 1 :: 0 :: 4 :: 15 :: 31 :: 63 :: 127 :: 255 :: 63 :: 575 :: 63 :: 2111 :: 7743 :: 16383 :: 32767 :: 65535 :: []), (true :: true :: true :: true :: true :: true :: true :: true :: true :: true :: true :: true :: true :: true :: true :: true :: true :: []), [], 0⟩ 17 19 ((0, 3) :: (1, 4) :: (2, 5) :: (3, 6) :: (4, 7) :: (5, 8) :: (6, 9) :: (7, 10) :: (8, 11) :: (9, 12) :: (10, 13) :: (11, 14) :: (12, 15) :: (13, 16) :: (14, 17) :: (15, 18) :: (16, 2) :: []) ((0, 3) :: (1, 4) :: (2, 5) :: (3, 6) :: (4, 7) :: (5, 8) :: (6, 9) :: (7, 10) :: (8, 11) :: (9, 12) :: (10, 13) :: (11, 14) :: (12, 15) :: (13, 16) :: (14, 17) :: (15, 18) :: (16, 2) :: []) (.det _ :: .det _ :: .det _ :: .det _ :: .det _ :: .det _ :: .det _ :: .det _ :: .det _ :: .det _ :: .det _ :: .det _ :: .det _ :: .det _ :: .det _ :: .det _ :: .det _ :: []) (by kernel_rfl) (by kernel_rfl) (by kernel_rfl) rfl (by kernel_rfl) (by kernel_rfl) rfl (by kernel_rfl) ?hone ?hend
  case hone =>
   intro CS frS VS hCS ha hV
   have qs1 := slot_val (t := 1) ha rfl
   simp only [List.getElem_toArray, List.getElem_cons_succ, List.getElem_cons_zero] at qs1
   have HCS := Lib.hid hCS
   have HVS := Lib.hid hV
   clear ha hCS hV
   refine sure_det (js := []) (ts := [1]) (gd := none) (place_at HVS.out (k := 0) rfl) (by rw [HCS.out]; kernel_rfl) ?_ ?_
   ·intro wx hx ρ hρ hs hf; have hρc := hρ.const; have hρf := hρ.func
    obtain ⟨fx1, -⟩ := hf; rw [qs1] at fx1
    clear hs
    clear HCS HVS qs1
    refine run_plain ?_
    unfold runs
    go_simp
    exact detK.mk
   refine sure_det (js := [(0, 3)]) (ts := []) (gd := none) (place_at HVS.out (k := 1) rfl) (by rw [HCS.out]; kernel_rfl) ?_ ?_
   ·intro wx hx ρ hρ hs hf; have hρc := hρ.const; have hρf := hρ.func; obtain ⟨sn0, -⟩ := hs; rw [place_at HVS.out (k := 0) rfl] at sn0; replace sn0 : ρ (.tmp 3) = _ := sn0
    clear hf
    clear HCS HVS qs1
    refine run_plain ?_
    obtain ⟨c0, c1, c2⟩ := hbox wx hx
    unfold runs
    go_simp
    exact detK.mk
   refine sure_det (js := []) (ts := [1]) (gd := none) (place_at HVS.out (k := 2) rfl) (by rw [HCS.out]; kernel_rfl) ?_ ?_
   ·intro wx hx ρ hρ hs hf; have hρc := hρ.const; have hρf := hρ.func
    obtain ⟨fx1, -⟩ := hf; rw [qs1] at fx1
    clear hs
    clear HCS HVS qs1
    refine run_plain ?_
    unfold runs
    go_simp
    exact detK.mk
   refine sure_det (js := [(2, 5)]) (ts := []) (gd := none) (place_at HVS.out (k := 3) rfl) (by rw [HCS.out]; kernel_rfl) ?_ ?_
   ·intro wx hx ρ hρ hs hf; have hρc := hρ.const; have hρf := hρ.func; obtain ⟨sn2, -⟩ := hs; rw [place_at HVS.out (k := 2) rfl] at sn2; replace sn2 : ρ (.tmp 5) = _ := sn2
    clear hf
    clear HCS HVS qs1
    refine run_plain ?_
    obtain ⟨c0, c1, c2⟩ := hbox wx hx
    unfold runs
    go_simp
    exact detK.mk
   refine sure_det (js := [(1, 4), (3, 6)]) (ts := []) (gd := none) (place_at HVS.out (k := 4) rfl) (by rw [HCS.out]; kernel_rfl) ?_ ?_
   ·intro wx hx ρ hρ hs hf; have hρc := hρ.const; have hρf := hρ.func; obtain ⟨sn1, sn3, -⟩ := hs; rw [place_at HVS.out (k := 1) rfl] at sn1; replace sn1 : ρ (.tmp 4) = _ := sn1; rw [place_at HVS.out (k := 3) rfl] at sn3; replace sn3 : ρ (.tmp 6) = _ := sn3
    clear hf
    clear HCS HVS qs1
    refine run_plain ?_
    refine op_call rfl hρ Try.call118 (map_two sn1 sn3) ?_
    first | ((with_reducible refine Calls.mono (may_any t c _) ?_); rintro e w' ⟨rfl, rfl⟩; refine ⟨_, rfl, ?_⟩; rw [h]; exact detK.mk) | ((with_reducible refine Calls.mono (size_any t c (by omega) (by omega) (by omega) (by omega) _) ?_); rintro e w' ⟨rfl, rfl⟩; refine ⟨_, rfl, ?_⟩; exact detK.mk)
   refine sure_det (js := [(4, 7)]) (ts := []) (gd := none) (place_at HVS.out (k := 5) rfl) (by rw [HCS.out]; kernel_rfl) ?_ ?_
   ·intro wx hx ρ hρ hs hf; have hρc := hρ.const; have hρf := hρ.func; obtain ⟨sn4, -⟩ := hs; rw [place_at HVS.out (k := 4) rfl] at sn4; replace sn4 : ρ (.tmp 7) = _ := sn4
    clear hf
    clear HCS HVS qs1
    refine run_plain ?_
    refine op_move rfl sn4 ?_
    exact detK.mk
   refine sure_det (js := [(5, 8)]) (ts := [1]) (gd := (some (8, true))) (place_at HVS.out (k := 6) rfl) (by rw [HCS.out]; kernel_rfl) ?_ ?_
   ·intro wx hx ρ hρ hs hf; have hρc := hρ.const; have hρf := hρ.func; obtain ⟨sn5, -⟩ := hs
    obtain ⟨fx1, -⟩ := hf; rw [qs1] at fx1; rw [place_at HVS.out (k := 5) rfl] at sn5; replace sn5 : ρ (.tmp 8) = _ := sn5
    clear HCS HVS qs1
    first
     | (refine run_passed sn5 ?_; exact detK.mk)
     | (refine run_guarded sn5 ?_; unfold runs; go_simp; exact detK.mk)
   refine sure_det (js := [(6, 9), (5, 8)]) (ts := []) (gd := (some (8, true))) (place_at HVS.out (k := 7) rfl) (by rw [HCS.out]; kernel_rfl) ?_ ?_
   ·intro wx hx ρ hρ hs hf; have hρc := hρ.const; have hρf := hρ.func; obtain ⟨sn6, sn5, -⟩ := hs; rw [place_at HVS.out (k := 6) rfl] at sn6; replace sn6 : ρ (.tmp 9) = _ := sn6; rw [place_at HVS.out (k := 5) rfl] at sn5; replace sn5 : ρ (.tmp 8) = _ := sn5
    clear hf
    clear HCS HVS qs1
    first
     | (refine run_passed sn5 ?_; exact detK.mk)
     | (refine run_guarded sn5 ?_; obtain ⟨c0, c1, c2⟩ := hbox wx hx; unfold runs; go_simp; exact detK.mk)
   refine sure_det (js := [(7, 10), (5, 8)]) (ts := []) (gd := (some (8, true))) (place_at HVS.out (k := 8) rfl) (by rw [HCS.out]; kernel_rfl) ?_ ?_
   ·intro wx hx ρ hρ hs hf; have hρc := hρ.const; have hρf := hρ.func; obtain ⟨sn7, sn5, -⟩ := hs; rw [place_at HVS.out (k := 7) rfl] at sn7; replace sn7 : ρ (.tmp 10) = _ := sn7; rw [place_at HVS.out (k := 5) rfl] at sn5; replace sn5 : ρ (.tmp 8) = _ := sn5
    clear hf
    clear HCS HVS qs1
    first
     | (refine run_passed sn5 ?_; exact detK.mk)
     | (refine run_guarded sn5 ?_; unfold runs; go_simp; exact detK.mk)
   refine sure_det (js := [(5, 8)]) (ts := [1]) (gd := (some (8, true))) (place_at HVS.out (k := 9) rfl) (by rw [HCS.out]; kernel_rfl) ?_ ?_
   ·intro wx hx ρ hρ hs hf; have hρc := hρ.const; have hρf := hρ.func; obtain ⟨sn5, -⟩ := hs
    obtain ⟨fx1, -⟩ := hf; rw [qs1] at fx1; rw [place_at HVS.out (k := 5) rfl] at sn5; replace sn5 : ρ (.tmp 8) = _ := sn5
    clear HCS HVS qs1
    first
     | (refine run_passed sn5 ?_; exact detK.mk)
     | (refine run_guarded sn5 ?_; unfold runs; go_simp; exact detK.mk)
   refine sure_det (js := [(9, 12), (5, 8)]) (ts := []) (gd := (some (8, true))) (place_at HVS.out (k := 10) rfl) (by rw [HCS.out]; kernel_rfl) ?_ ?_
   ·intro wx hx ρ hρ hs hf; have hρc := hρ.const; have hρf := hρ.func; obtain ⟨sn9, sn5, -⟩ := hs; rw [place_at HVS.out (k := 9) rfl] at sn9; replace sn9 : ρ (.tmp 12) = _ := sn9; rw [place_at HVS.out (k := 5) rfl] at sn5; replace sn5 : ρ (.tmp 8) = _ := sn5
    clear hf
    clear HCS HVS qs1
    first
     | (refine run_passed sn5 ?_; exact detK.mk)
     | (refine run_guarded sn5 ?_; obtain ⟨c0, c1, c2⟩ := hbox wx hx; unfold runs; go_simp; exact detK.mk)
   refine sure_det (js := [(5, 8)]) (ts := [1]) (gd := (some (8, true))) (place_at HVS.out (k := 11) rfl) (by rw [HCS.out]; kernel_rfl) ?_ ?_
   ·intro wx hx ρ hρ hs hf; have hρc := hρ.const; have hρf := hρ.func; obtain ⟨sn5, -⟩ := hs
    obtain ⟨fx1, -⟩ := hf; rw [qs1] at fx1; rw [place_at HVS.out (k := 5) rfl] at sn5; replace sn5 : ρ (.tmp 8) = _ := sn5
    clear HCS HVS qs1
    first
     | (refine run_passed sn5 ?_; exact detK.mk)
     | (refine run_guarded sn5 ?_; unfold runs; go_simp; exact detK.mk)
   refine sure_det (js := [(11, 14), (5, 8)]) (ts := []) (gd := (some (8, true))) (place_at HVS.out (k := 12) rfl) (by rw [HCS.out]; kernel_rfl) ?_ ?_
   ·intro wx hx ρ hρ hs hf; have hρc := hρ.const; have hρf := hρ.func; obtain ⟨sn11, sn5, -⟩ := hs; rw [place_at HVS.out (k := 11) rfl] at sn11; replace sn11 : ρ (.tmp 14) = _ := sn11; rw [place_at HVS.out (k := 5) rfl] at sn5; replace sn5 : ρ (.tmp 8) = _ := sn5
    clear hf
    clear HCS HVS qs1
    first
     | (refine run_passed sn5 ?_; exact detK.mk)
     | (refine run_guarded sn5 ?_; obtain ⟨c0, c1, c2⟩ := hbox wx hx; unfold runs; go_simp; exact detK.mk)
   refine sure_det (js := [(10, 13), (12, 15), (5, 8)]) (ts := []) (gd := (some (8, true))) (place_at HVS.out (k := 13) rfl) (by rw [HCS.out]; kernel_rfl) ?_ ?_
   ·intro wx hx ρ hρ hs hf; have hρc := hρ.const; have hρf := hρ.func; obtain ⟨sn10, sn12, sn5, -⟩ := hs; rw [place_at HVS.out (k := 10) rfl] at sn10; replace sn10 : ρ (.tmp 13) = _ := sn10; rw [place_at HVS.out (k := 12) rfl] at sn12; replace sn12 : ρ (.tmp 15) = _ := sn12; rw [place_at HVS.out (k := 5) rfl] at sn5; replace sn5 : ρ (.tmp 8) = _ := sn5
    clear hf
    clear HCS HVS qs1
    first
     | (refine run_passed sn5 ?_; exact detK.mk)
     | (refine run_guarded sn5 ?_; refine op_call rfl hρ Try.call119 (map_two sn10 sn12) ?_; (first | ((with_reducible refine Calls.mono (may_any t c _) ?_); rintro e w' ⟨rfl, rfl⟩; refine ⟨_, rfl, ?_⟩; rw [h]; exact detK.mk) | ((with_reducible refine Calls.mono (size_any t c (by omega) (by omega) (by omega) (by omega) _) ?_); rintro e w' ⟨rfl, rfl⟩; refine ⟨_, rfl, ?_⟩; exact detK.mk)))
   refine sure_det (js := [(8, 11), (13, 16), (5, 8)]) (ts := []) (gd := (some (8, true))) (place_at HVS.out (k := 14) rfl) (by rw [HCS.out]; kernel_rfl) ?_ ?_
   ·intro wx hx ρ hρ hs hf; have hρc := hρ.const; have hρf := hρ.func; obtain ⟨sn8, sn13, sn5, -⟩ := hs; rw [place_at HVS.out (k := 8) rfl] at sn8; replace sn8 : ρ (.tmp 11) = _ := sn8; rw [place_at HVS.out (k := 13) rfl] at sn13; replace sn13 : ρ (.tmp 16) = _ := sn13; rw [place_at HVS.out (k := 5) rfl] at sn5; replace sn5 : ρ (.tmp 8) = _ := sn5
    clear hf
    clear HCS HVS qs1
    first
     | (refine run_passed sn5 ?_; exact detK.mk)
     | (refine run_guarded sn5 ?_; unfold runs; go_simp; exact detK.mk)
   refine sure_det (js := [(5, 8), (14, 17)]) (ts := []) (gd := none) (place_at HVS.out (k := 15) rfl) (by rw [HCS.out]; kernel_rfl) ?_ ?_
   ·intro wx hx ρ hρ hs hf; have hρc := hρ.const; have hρf := hρ.func; obtain ⟨sn5, sn14, -⟩ := hs; rw [place_at HVS.out (k := 5) rfl] at sn5; replace sn5 : ρ (.tmp 8) = _ := sn5; rw [place_at HVS.out (k := 14) rfl] at sn14; replace sn14 : ρ (.tmp 17) = _ := sn14
    clear hf
    clear HCS HVS qs1
    refine run_plain ?_
    first | refine op_pick_t rfl sn5 sn14 ?_ | refine op_pick_f rfl sn5 (hρ.const _) ?_
    exact detK.mk
   refine sure_det (js := [(15, 18)]) (ts := []) (gd := none) (place_at HVS.out (k := 16) rfl) (by rw [HCS.out]; kernel_rfl) ?_ ?_
   ·intro wx hx ρ hρ hs hf; have hρc := hρ.const; have hρf := hρ.func; obtain ⟨sn15, -⟩ := hs; rw [place_at HVS.out (k := 15) rfl] at sn15; replace sn15 : ρ (.tmp 18) = _ := sn15
    clear hf
    clear HCS HVS qs1
    refine run_plain ?_
    refine op_assign rfl sn15 ?_
    exact detK.mk
   exact trivial
  case hend =>
   intro xs wx hx hg
   have gk0 : xs 0 = _ := goods_get hg (i := 0) (j := 0) (d := 3) rfl
   have gk1 : xs 1 = _ := goods_get hg (i := 1) (j := 1) (d := 4) rfl
   have gk2 : xs 2 = _ := goods_get hg (i := 2) (j := 2) (d := 5) rfl
   have gk3 : xs 3 = _ := goods_get hg (i := 3) (j := 3) (d := 6) rfl
   have gk4 : xs 4 = _ := goods_get hg (i := 4) (j := 4) (d := 7) rfl
   have gk5 : xs 5 = _ := goods_get hg (i := 5) (j := 5) (d := 8) rfl
   have gk6 : xs 6 = _ := goods_get hg (i := 6) (j := 6) (d := 9) rfl
   have gk7 : xs 7 = _ := goods_get hg (i := 7) (j := 7) (d := 10) rfl
   have gk8 : xs 8 = _ := goods_get hg (i := 8) (j := 8) (d := 11) rfl
   have gk9 : xs 9 = _ := goods_get hg (i := 9) (j := 9) (d := 12) rfl
   have gk10 : xs 10 = _ := goods_get hg (i := 10) (j := 10) (d := 13) rfl
   have gk11 : xs 11 = _ := goods_get hg (i := 11) (j := 11) (d := 14) rfl
   have gk12 : xs 12 = _ := goods_get hg (i := 12) (j := 12) (d := 15) rfl
   have gk13 : xs 13 = _ := goods_get hg (i := 13) (j := 13) (d := 16) rfl
   have gk14 : xs 14 = _ := goods_get hg (i := 14) (j := 14) (d := 17) rfl
   have gk15 : xs 15 = _ := goods_get hg (i := 15) (j := 15) (d := 18) rfl
   have gk16 : xs 16 = _ := goods_get hg (i := 16) (j := 16) (d := 2) rfl
   clear hg
   simp only [putAll, gk0, gk1, gk2, gk3, gk4, gk5, gk6, gk7, gk8, gk9, gk10, gk11, gk12, gk13, gk14, gk15, gk16]
   clear gk0 gk1 gk2 gk3 gk4 gk5 gk6 gk7 gk8 gk9 gk10 gk11 gk12 gk13 gk14 gk15 gk16
   clear xs
   simp only [Act.put, List.setIfInBounds_toArray, List.set_cons_zero, List.set_cons_succ]
   go_wp2
   go_ret
   exact ⟨rfl, hEx wx hx⟩
theorem field_nat (t r f : Nat) (h1 : 1 ≤ r) (ht : t ≤ 65) (hr : r ≤ 65536) (hf : f ≤ 8) (w : World) :
  Calls Try.prog 64 #[.int .i64 t, .int .i64 r, .int .i64 f] w fun e w' => e = .returned (.int .i64 (fieldN t r f : Nat)) ∧ w = w' :=
 (field_any t r f (by omega) (by omega) (by omega) (by omega) (by omega) (by omega) w).mono fun _ _ ⟨he, hw⟩ => ⟨by rw [he]; congr 2; unfold fieldN; omega, hw⟩
/-- a memory in a box of its own, as it reads in whatever world behind -/
def MemBox (w : World) (b : Nat) (t c : Int) (g L : Nat) (f : Nat → Int) : Prop :=
 w.cell? ⟨b, 0, none⟩ = some (.int .i64 t) ∧ w.cell? ⟨b, 1, none⟩ = some (.int .i64 c) ∧ w.cell? ⟨b, 2, none⟩ = some (.slice (some ⟨g, 0, none⟩) L L) ∧ ∀ i, i < L → w.cell? ⟨g, i, none⟩ = some (.int .u64 (f i))
theorem MemBox.ext {w w' : World} {b : Nat} {t c : Int} {g L : Nat} {f : Nat → Int} (h : MemBox w b t c g L f) (hx : Ext w w') : MemBox w' b t c g L f :=
 ⟨hx.cell h.1, hx.cell h.2.1, hx.cell h.2.2.1, fun i hi => hx.cell (h.2.2.2 i hi)⟩
theorem MemBox.new {w : World} {t c : Int} {g L : Nat} {f : Nat → Int} (h : WordsAt w g L f) : MemBox (w.alloc (.cells #[.int .i64 t, .int .i64 c, .slice (some ⟨g, 0, none⟩) L L] 45)) w.heap.size t c g L f := by
 refine ⟨by simp [go_sem], by simp [go_sem], by simp [go_sem], fun i hi => ?_⟩
 have hx : Ext w (w.alloc (.cells #[.int .i64 t, .int .i64 c, .slice (some ⟨g, 0, none⟩) L L] 45)) := (Below.refl _ w).alloc (Nat.le_refl _) _
 exact hx.cell (h i hi).1
end Go.Proofs.Ytkdjmfaodojmfaa

namespace Go.Proofs.Ytkdjmfaodojmfaa
open Go.RowKit

/-! wealdref09. -/
theorem newI_made {L : Nat} {t c : Int} {C : Array Value} (w : World) (hC : C = madeCells #[.int .u64 0] L) :
  NewI 45 w L t c (fun _ => 0) (((w.alloc (.cells #[.int .i64 0, .int .i64 0, .slice none 0 0] 45)).alloc (.cells C 22)).alloc (.cells #[.int .i64 t, .int .i64 c, .slice (some ⟨w.heap.size + 1, 0, none⟩) L L] 45)) := by
 refine ⟨((((Below.refl _ w).alloc (Nat.le_refl _) _).alloc (by simp) _).alloc (by simp; omega) _), WordsAt.made (C := C) (e := 22) ?_ hC, ?_, ?_⟩
 ·rw [Below.heap_alloc _ _ _ (by simp)]
  simpa using heap_alloc_new (w.alloc (.cells #[.int .i64 0, .int .i64 0, .slice none 0 0] 45)) (.cells C 22)
 ·rw [Below.heap_alloc _ _ _ (by simp; omega), Below.heap_alloc _ _ _ (by simp)]
  exact heap_alloc_new w _
 ·simpa using heap_alloc_new ((w.alloc (.cells #[.int .i64 0, .int .i64 0, .slice none 0 0] 45)).alloc (.cells C 22)) (.cells #[.int .i64 t, .int .i64 c, .slice (some ⟨w.heap.size + 1, 0, none⟩) L L] 45)
theorem rpin_any (i : Int) (h1 : -1000000 ≤ i) (h2 : i ≤ 1000000) (w : World) :
  Calls Try.prog 63 #[.int .i64 i] w fun e w' => e = .returned (.int .i64 (8 + i)) ∧ w = w' := by
 go_enter Try.func63, Try.ntmps63
 go_wp2
 go_ret
 exact ⟨rfl, rfl⟩
theorem rfield_any (t r f : Int) (h1 : -1000000 ≤ t) (h2 : t ≤ 1000000) (h3 : -100000 ≤ r) (h4 : r ≤ 2000000) (h5 : -1000000 ≤ f) (h6 : f ≤ 1000000) (w : World) :
  Calls Try.prog 65 #[.int .i64 t, .int .i64 r, .int .i64 f] w fun e w' => e = .returned (.int .i64 (8 + t + 8 * (r - 1) + f)) ∧ w = w' := by
 go_enter Try.func65, Try.ntmps65
 go_wp2
 go_ret
 exact ⟨rfl, rfl⟩
theorem rfield_link (t r : Nat) (h1 : 1 ≤ r) (ht : t ≤ 64) (hr : r ≤ 65536) (w : World) :
  Calls Try.prog 65 #[.int .i64 t, .int .i64 r, .int .i64 7] w fun e w' => e = .returned (.int .i64 (linkAt t r : Nat)) ∧ w = w' :=
 (rfield_any t r 7 (by omega) (by omega) (by omega) (by omega) (by omega) (by omega) w).mono fun _ _ ⟨he, hw⟩ => ⟨by rw [he]; congr 2; unfold linkAt; omega, hw⟩
theorem rnext_any (t r : Int) (h1 : -1000000 ≤ t) (h2 : t ≤ 1000000) (h3 : -100000 ≤ r) (h4 : r ≤ 1000000) (w : World) :
  Calls Try.prog 67 #[.int .i64 t, .int .i64 r] w fun e w' => e = .returned (.int .i64 (nextF t r)) ∧ w = w' := by
 by_cases h : r = 0
 ·subst h
  go_enter Try.func67, Try.ntmps67
  go_wp2
  go_ret
  exact ⟨rfl, rfl⟩
 ·have e : nextF t r = 8 + t + 8 * (r - 1) + 0 := by simp [nextF, h]
  rw [e]
  clear e
  go_enter Try.func67, Try.ntmps67
  go_wp2_with (go_at_call 65; refine (rfield_any t r 0 (by omega) (by omega) (by omega) (by omega) (by omega) (by omega) _).mono ?_; rintro e w' ⟨rfl, rfl⟩)
  go_ret
  exact ⟨ret_int (by omega), rfl⟩
theorem rright_cases {t c : Int} {n : Nat} : (rightM t c n = ((n : Int) == 8 + t + 8 * c) ∧ 1 ≤ t ∧ t ≤ 64 ∧ 0 ≤ c ∧ c ≤ 65536) ∨ (rightM t c n = false ∧ ((¬ 1 ≤ t) ∨ (1 ≤ t ∧ ¬ t ≤ 64) ∨ (1 ≤ t ∧ t ≤ 64 ∧ ¬ 0 ≤ c) ∨ (1 ≤ t ∧ t ≤ 64 ∧ 0 ≤ c ∧ ¬ c ≤ 65536))) := by
 by_cases h : 1 ≤ t ∧ t ≤ 64 ∧ 0 ≤ c ∧ c ≤ 65536
 ·exact .inl ⟨by simp [rightM, mayB_of h], h⟩
 ·exact .inr ⟨by simp [rightM, mayB_not h], by omega⟩
theorem mright_any (t c : Int) (A : Option Addr) (n cp : Nat) (w : World) :
  Calls Try.prog 61 #[.agg #[.int .i64 t, .int .i64 c, .slice A n cp]] w fun e w' => e = .returned (.bool (rightM t c n)) ∧ Ext w w' := by
 rcases @rright_cases t c n with ⟨h, h1, h2, h3, h4⟩ | ⟨h, h1 | ⟨h1, h2⟩ | ⟨h1, h2, h3⟩ | ⟨h1, h2, h3, h4⟩⟩
 all_goals
  rw [h]
  clear h
  go_enter Try.func61, Try.ntmps61
  go_wp2
  all_goals go_ret
  all_goals exact ⟨by simp [*], (Below.refl _ _).alloc (Nat.le_refl _) _⟩
theorem rnew_no (t c : Int) (h : mayB t c = false) (w : World) :
  Calls Try.prog 58 #[.int .i64 t, .int .i64 c] w fun e w' => e = .returned (.tuple #[.agg #[.int .i64 0, .int .i64 0, .slice none 0 0], .int .i64 1]) ∧ Ext w w' := by
 have h' : t < 1 ∨ (¬ t < 1 ∧ 64 < t) ∨ (¬ t < 1 ∧ ¬ 64 < t ∧ c < 0) ∨ (¬ t < 1 ∧ ¬ 64 < t ∧ ¬ c < 0 ∧ 65536 < c) := by
  by_cases h2 : 1 ≤ t ∧ t ≤ 64 ∧ 0 ≤ c ∧ c ≤ 65536
  ·rw [mayB_of h2] at h; cases h
  ·omega
 clear h
 rcases h' with h1 | ⟨h1, h2⟩ | ⟨h1, h2, h3⟩ | ⟨h1, h2, h3, h4⟩
 all_goals
  go_enter Try.func58, Try.ntmps58
  go_wp2
  refine bodyPost_ret (v := .tuple #[.agg #[.int .i64 0, .int .i64 0, .slice none 0 0], .int .i64 1]) (by simp [results, Try.results58, go_sem]) rfl ⟨rfl, ?_⟩
  exact (Below.refl _ _).alloc (Nat.le_refl _) _
set_option maxRecDepth 100000 in
set_option maxHeartbeats 4000000 in
theorem rnew_yes (t c : Nat) (ht1 : 1 ≤ t) (ht2 : t ≤ 64) (hc : c ≤ 65536) (w : World) :
  Calls Try.prog 58 #[.int .i64 t, .int .i64 c] w fun e w' => ∃ g, e = .returned (.tuple #[.agg #[.int .i64 t, .int .i64 c, .slice (some ⟨g, 0, none⟩) (memL t c) (memL t c)], .int .i64 0]) ∧ w.heap.size ≤ g ∧ WordsAt w' g (memL t c) (newF t c c) ∧ Ext w w' := by
 obtain ⟨i0, hi0, hz0, hz1, hz2⟩ := info_parts info_u64
 have hL : memL t c ≤ 1000000 := by unfold memL; omega
 have hLe : (8 + (t : Int) + 8 * (c : Int)) = ((memL t c : Nat) : Int) := by unfold memL; omega
 have hL1 : 1 < memL t c := by unfold memL; omega
 generalize hC : madeCells (Value.int .u64 0).cells (memL t c) = C
 have HC := Lib.hid hC
 have hmk : ∀ W, (Instr.makeSlice 31 (.int .i64 ((memL t c : Nat) : Int)) (.int .i64 ((memL t c : Nat) : Int))).run Try.prog W = .ok (.slice (some ⟨W.heap.size, 0, none⟩) (memL t c) (memL t c)) (W.alloc (.cells C 22)) := fun W => by
  have := run_make (P := Try.prog) W 31 22 i0 _ Try.underlying31 hi0 hz0 .i64 .i64 ((memL t c : Nat) : Int) ((memL t c : Nat) : Int) (by omega) (Int.le_refl _) (by rw [hz2]; omega) (by omega)
  simp only [Int.toNat_natCast, hz1, Nat.mul_one] at this
  rw [this, ← HC.out]
 clear hC
 generalize hLL : memL t c = L at *
 have HLL := Lib.hid hLL
 have HLe := Lib.hid hLe
 clear hLL
 rcases Nat.eq_zero_or_pos c with hc0 | hc1
 ·have hc0' : ¬ (0 : Int) < (c : Int) := by omega
  have hone : ¬ (1 : Int) < (c : Int) := by omega
  have H0 := Lib.hid hc0
  clear hc0
  go_enter Try.func58, Try.ntmps58
  go_wp2_with fail
  have hI : NewI 45 w L t c (fun _ => 0) (((w.alloc (.cells #[.int .i64 0, .int .i64 0, .slice none 0 0] 45)).alloc (.cells C 22)).alloc (.cells #[.int .i64 t, .int .i64 c, .slice (some ⟨w.heap.size + 1, 0, none⟩) L L] 45)) := newI_made w HC.out.symm
  generalize ((w.alloc (.cells #[.int .i64 0, .int .i64 0, .slice none 0 0] 45)).alloc (.cells C 22)).alloc (.cells #[.int .i64 t, .int .i64 c, .slice (some ⟨w.heap.size + 1, 0, none⟩) L L] 45) = W at *
  have hN : NewI 45 w L t c (newF t c c) W := hI.congr fun i _ => by rw [H0.out]; unfold newF; simp
  clear hmk hLe hi0 hz0 hz1 hz2 hI
  obtain ⟨e0, e1, e2⟩ := hN.cells
  obtain ⟨d0, d1, d2, f0, f1, f2⟩ := hN.out
  refine wp_loop_rounds 1 ?_
  rw [rounds_succ]
  go_wp2
  refine bodyPost_ret (v := .tuple #[.agg #[.int .i64 t, .int .i64 c, .slice (some ⟨w.heap.size + 1, 0, none⟩) L L], .int .i64 0]) (by simp [results, Try.results58, go_sem, d0, d1, d2]) rfl ⟨w.heap.size + 1, rfl, by omega, ?_, ?_⟩
  ·exact ((hN.row.other (by simp) _).other (by simp) _).other (by simp) _
  ·exact ((hN.ext.setCell (by simp) _).setCell (by simp) _).setCell (by simp) _
 ·go_enter Try.func58, Try.ntmps58
  go_upto_region 5 with (fail)
  have hI : NewI 45 w L t c (fun _ => 0) (((w.alloc (.cells #[.int .i64 0, .int .i64 0, .slice none 0 0] 45)).alloc (.cells C 22)).alloc (.cells #[.int .i64 t, .int .i64 c, .slice (some ⟨w.heap.size + 1, 0, none⟩) L L] 45)) := newI_made w HC.out.symm
  generalize ((w.alloc (.cells #[.int .i64 0, .int .i64 0, .slice none 0 0] 45)).alloc (.cells C 22)).alloc (.cells #[.int .i64 t, .int .i64 c, .slice (some ⟨w.heap.size + 1, 0, none⟩) L L] 45) = W at *
  have hI1 : NewI 45 w L t c (newF t c 1) (W.setCell ⟨w.heap.size + 1, 1, none⟩ (.int .u64 1)) := (hI.set hL1 1).congr fun i _ => by
   rw [newF_zero]
   split
   ·rw [show min c 1 = 1 by omega]; rfl
   ·rfl
  obtain ⟨e0, e1, e2⟩ := hI.cells
  obtain ⟨x1, x2⟩ := hI.at hL1
  clear hmk hLe hi0 hz0 hz1 hz2 hI
  go_wp2
  clear x1 x2 e0 e1 e2
  go_loopw [7] (fun i wr => ∃ r : Nat, 1 ≤ r ∧ r ≤ c ∧ i = .int .i64 r ∧ NewI 45 w L t c (newF t c r) wr) (fun i _ => c - (intOf i).toNat)
  case atStart => exact ⟨1, Nat.le_refl _, hc1, rfl, hI1⟩
  case round =>
   obtain ⟨r, hr1, hr, rfl, hN⟩ := hrel
   rcases Nat.lt_or_ge r c with hrc | hrc
   ·have hlk : linkAt t r < L := by rw [← HLL.out]; exact linkAt_lt hr1 (by omega)
    have hfield := fun W => rfield_link t r hr1 ht2 (by omega) W
    have hstep := fun i => newF_step (t := t) (c := c) hr1 i
    generalize hj : linkAt t r = j at *
    clear hj hI1
    go_wp2_with fail
    refine' wp_region_sure ⟨((some 42, [], none) :: (some 43, [0], none) :: (some 44, [], none) :: (some 45, [], none) :: (some 46, [2, 3], none) :: (some 47, [], none) :: (some 48, [5], none) :: (some 49, [6], none) :: (some 50, [1, 4, 0, 1, 2, 3, 4, 5, 6, 7], none) :: (none, [8, 7, 4, 0, 1, 2, 3, 4, 5, 6, 7], none) :: []), (0 :: 1 :: 0 :: 0 :: 12 :: 0 :: 32 :: 96 :: 255 :: 511 :: []), (true :: true :: true :: true :: true :: true :: true :: true :: []), [], 0⟩ 8 52 ((0, 42) :: (1, 43) :: (2, 44) :: (3, 45) :: (4, 46) :: (5, 47) :: (6, 48) :: (7, 49) :: []) ((0, 42) :: (1, 43) :: (2, 44) :: (3, 45) :: (4, 46) :: (5, 47) :: (6, 48) :: (7, 49) :: []) (.det _ :: .det _ :: .det _ :: .det _ :: .det _ :: .det _ :: .det _ :: .det _ :: []) (by kernel_rfl) (by kernel_rfl) (by kernel_rfl) rfl (by kernel_rfl) (by kernel_rfl) rfl ?hone ?hend
    case hone =>
     intro CS frS VS hCS ha hV
     have qs0 := slot_val (t := 0) ha rfl
     simp only [List.getElem_toArray, List.getElem_cons_succ, List.getElem_cons_zero] at qs0
     have qs6 := slot_val (t := 6) ha rfl
     simp only [List.getElem_toArray, List.getElem_cons_succ, List.getElem_cons_zero] at qs6
     have qs7 := slot_val (t := 7) ha rfl
     simp only [List.getElem_toArray, List.getElem_cons_succ, List.getElem_cons_zero] at qs7
     have HCS := Lib.hid hCS
     have HVS := Lib.hid hV
     clear ha hCS hV
     refine sure_det (js := []) (ts := [6]) (gd := none) (place_at HVS.out (k := 0) rfl) (by rw [HCS.out]; kernel_rfl) ?_ ?_
     ·intro wx hx ρ hρ hs hf; have hρc := hρ.const; have hρf := hρ.func
      obtain ⟨fx6, -⟩ := hf; rw [qs6] at fx6
      clear hs
      clear HCS HVS qs0 qs6 qs7
      refine run_plain ?_
      unfold runs
      go_simp
      exact detK.mk
     refine sure_det (js := [(0, 42)]) (ts := []) (gd := none) (place_at HVS.out (k := 1) rfl) (by rw [HCS.out]; kernel_rfl) ?_ ?_
     ·intro wx hx ρ hρ hs hf; have hρc := hρ.const; have hρf := hρ.func; obtain ⟨sn0, -⟩ := hs; rw [place_at HVS.out (k := 0) rfl] at sn0; replace sn0 : ρ (.tmp 42) = _ := sn0
      clear hf
      clear HCS HVS qs0 qs6 qs7
      refine run_plain ?_
      obtain ⟨e0, e1, e2⟩ := (hN.on hx.drawn).cells
      unfold runs
      go_simp
      exact detK.mk
     refine sure_det (js := []) (ts := [0]) (gd := none) (place_at HVS.out (k := 2) rfl) (by rw [HCS.out]; kernel_rfl) ?_ ?_
     ·intro wx hx ρ hρ hs hf; have hρc := hρ.const; have hρf := hρ.func
      obtain ⟨fx0, -⟩ := hf; rw [qs0] at fx0
      clear hs
      clear HCS HVS qs0 qs6 qs7
      refine run_plain ?_
      refine op_move rfl fx0 ?_
      exact detK.mk
     refine sure_det (js := []) (ts := [7]) (gd := none) (place_at HVS.out (k := 3) rfl) (by rw [HCS.out]; kernel_rfl) ?_ ?_
     ·intro wx hx ρ hρ hs hf; have hρc := hρ.const; have hρf := hρ.func
      obtain ⟨fx7, -⟩ := hf; rw [qs7] at fx7
      clear hs
      clear HCS HVS qs0 qs6 qs7
      refine run_plain ?_
      refine op_move rfl fx7 ?_
      exact detK.mk
     refine sure_det (js := [(2, 44), (3, 45)]) (ts := []) (gd := none) (place_at HVS.out (k := 4) rfl) (by rw [HCS.out]; kernel_rfl) ?_ ?_
     ·intro wx hx ρ hρ hs hf; have hρc := hρ.const; have hρf := hρ.func; obtain ⟨sn2, sn3, -⟩ := hs; rw [place_at HVS.out (k := 2) rfl] at sn2; replace sn2 : ρ (.tmp 44) = _ := sn2; rw [place_at HVS.out (k := 3) rfl] at sn3; replace sn3 : ρ (.tmp 45) = _ := sn3
      clear hf
      clear HCS HVS qs0 qs6 qs7
      refine run_plain ?_
      refine op_call rfl hρ Try.call65 (map_three sn2 sn3 (hρ.const _)) ?_
      refine Calls.mono (hfield _) ?_; rintro e w' ⟨rfl, rfl⟩; refine ⟨_, rfl, ?_⟩; exact detK.mk
     refine sure_det (js := []) (ts := [7]) (gd := none) (place_at HVS.out (k := 5) rfl) (by rw [HCS.out]; kernel_rfl) ?_ ?_
     ·intro wx hx ρ hρ hs hf; have hρc := hρ.const; have hρf := hρ.func
      obtain ⟨fx7, -⟩ := hf; rw [qs7] at fx7
      clear hs
      clear HCS HVS qs0 qs6 qs7
      refine run_plain ?_
      refine op_move rfl fx7 ?_
      exact detK.mk
     refine sure_det (js := [(5, 47)]) (ts := []) (gd := none) (place_at HVS.out (k := 6) rfl) (by rw [HCS.out]; kernel_rfl) ?_ ?_
     ·intro wx hx ρ hρ hs hf; have hρc := hρ.const; have hρf := hρ.func; obtain ⟨sn5, -⟩ := hs; rw [place_at HVS.out (k := 5) rfl] at sn5; replace sn5 : ρ (.tmp 47) = _ := sn5
      clear hf
      clear HCS HVS qs0 qs6 qs7
      refine run_plain ?_
      unfold runs
      go_simp
      exact detK.mk
     refine sure_det (js := [(6, 48)]) (ts := []) (gd := none) (place_at HVS.out (k := 7) rfl) (by rw [HCS.out]; kernel_rfl) ?_ ?_
     ·intro wx hx ρ hρ hs hf; have hρc := hρ.const; have hρf := hρ.func; obtain ⟨sn6, -⟩ := hs; rw [place_at HVS.out (k := 6) rfl] at sn6; replace sn6 : ρ (.tmp 48) = _ := sn6
      clear hf
      clear HCS HVS qs0 qs6 qs7
      refine run_plain ?_
      unfold runs
      go_simp
      exact detK.mk
     exact trivial
    case hend =>
     intro xs wx hx hg
     have gk0 : xs 0 = _ := goods_get hg (i := 0) (j := 0) (d := 42) rfl
     have gk1 : xs 1 = _ := goods_get hg (i := 1) (j := 1) (d := 43) rfl
     have gk2 : xs 2 = _ := goods_get hg (i := 2) (j := 2) (d := 44) rfl
     have gk3 : xs 3 = _ := goods_get hg (i := 3) (j := 3) (d := 45) rfl
     have gk4 : xs 4 = _ := goods_get hg (i := 4) (j := 4) (d := 46) rfl
     have gk5 : xs 5 = _ := goods_get hg (i := 5) (j := 5) (d := 47) rfl
     have gk6 : xs 6 = _ := goods_get hg (i := 6) (j := 6) (d := 48) rfl
     have gk7 : xs 7 = _ := goods_get hg (i := 7) (j := 7) (d := 49) rfl
     clear hg
     simp only [putAll, gk0, gk1, gk2, gk3, gk4, gk5, gk6, gk7]
     clear gk0 gk1 gk2 gk3 gk4 gk5 gk6 gk7
     clear xs
     simp only [Act.put, List.setIfInBounds_toArray, List.set_cons_zero, List.set_cons_succ, List.drop_succ_cons, List.drop_zero]
     obtain ⟨x1, x2⟩ := (hN.on hx.drawn).at hlk
     go_wp2
     have hN2 := ((hN.on hx.drawn).set hlk ((r + 1 : Nat) : Int)).congr fun i _ => (hstep i).symm
     go_roundw
     case rel => exact ⟨r + 1, by omega, by omega, by go_num, by simpa using hN2⟩
     case measure => simp [intOf]; omega
   ·obtain rfl : r = c := by omega
    obtain ⟨e0, e1, e2⟩ := hN.cells
    obtain ⟨d0, d1, d2, f0, f1, f2⟩ := hN.out
    go_wp2
    refine bodyPost_ret (v := .tuple #[.agg #[.int .i64 t, .int .i64 r, .slice (some ⟨w.heap.size + 1, 0, none⟩) L L], .int .i64 0]) (by simp [results, Try.results58, go_sem, d0, d1, d2]) rfl ⟨w.heap.size + 1, rfl, by omega, ?_, ?_⟩
    ·exact ((hN.row.other (by simp) _).other (by simp) _).other (by simp) _
    ·exact ((hN.ext.setCell (by simp) _).setCell (by simp) _).setCell (by simp) _
set_option maxRecDepth 100000 in
set_option maxHeartbeats 1000000 in
theorem msame_yes (t c : Int) (A B : Option Addr) (n cp cp2 : Nat) (l : List Int) (w : World) (hA : WordsV w A n cp l) (hB : WordsV w B n cp2 l) (hn : n ≤ 1000000) :
  Calls Try.prog 59 #[.agg #[.int .i64 t, .int .i64 c, .slice A n cp], .agg #[.int .i64 t, .int .i64 c, .slice B n cp2]] w fun e w' => e = .returned (.bool true) ∧ Ext w w' := by
 have hE : Ext w ((w.alloc (.cells #[.int .i64 t, .int .i64 c, .slice A n cp] 45)).alloc (.cells #[.int .i64 t, .int .i64 c, .slice B n cp2] 45)) := ((Below.refl _ w).alloc (Nat.le_refl _) _).alloc (by simp) _
 generalize hW : ((w.alloc (.cells #[.int .i64 t, .int .i64 c, .slice A n cp] 45)).alloc (.cells #[.int .i64 t, .int .i64 c, .slice B n cp2] 45)) = W at hE
 have HW := Lib.hid hW
 clear hW
 have hbox : ∀ wx, Ext W wx → wx.cell? ⟨w.heap.size, 2, none⟩ = some (.slice A n cp) ∧ wx.cell? ⟨w.heap.size + 1, 2, none⟩ = some (.slice B n cp2) := fun wx hx =>
  ⟨hx.cell (by rw [← HW.out]; simp [go_sem]), hx.cell (by rw [← HW.out]; simp [go_sem])⟩
 go_enter Try.func59, Try.ntmps59
 go_wp2
 rw [HW.out]
 go_loopw [5] (fun i wr => ∃ j : Nat, j ≤ n ∧ i = .int .i64 j ∧ Ext W wr) (fun i _ => n - (intOf i).toNat)
 case atStart => exact ⟨0, Nat.zero_le _, rfl, Ext.refl _⟩
 case round =>
  obtain ⟨j, hj, rfl, hxr⟩ := hrel
  obtain ⟨c2, c3⟩ := hbox wr hxr
  rcases Nat.lt_or_ge j n with hjn | hjn
  ·obtain ⟨a, rfl, ha, -⟩ := hA.at hjn
   obtain ⟨b, rfl, hb, -⟩ := hB.at hjn
   generalize l.getD j 0 = z at ha hb
   have hX : ∀ wx, Ext wr.drew wx → wx.cell? ⟨w.heap.size, 2, none⟩ = some (.slice (some a) n cp) ∧ wx.cell? ⟨w.heap.size + 1, 2, none⟩ = some (.slice (some b) n cp2) ∧ wx.cell? (a.add j) = some (.int .u64 z) ∧ wx.cell? (b.add j) = some (.int .u64 z) := fun wx h =>
    ⟨h.drawn.cell c2, h.drawn.cell c3, ((hE.trans hxr).trans h.drawn).cell ha, ((hE.trans hxr).trans h.drawn).cell hb⟩
   clear hbox hA hB
   go_wp2_with fail
   refine' wp_region_sure_all ⟨((some 34, [], none) :: (some 35, [0], none) :: (some 36, [], none) :: (some 37, [1, 2], none) :: (some 38, [3], none) :: (some 39, [], none) :: (some 40, [5], none) :: (some 41, [], none) :: (some 42, [6, 7], none) :: (some 43, [8], none) :: (some 44, [4, 9], none) :: []), (0 :: 1 :: 0 :: 7 :: 15 :: 0 :: 32 :: 0 :: 224 :: 480 :: 1023 :: []), (true :: true :: true :: true :: true :: true :: true :: true :: true :: true :: true :: []), [], 0⟩ 11 45 ((0, 34) :: (1, 35) :: (2, 36) :: (3, 37) :: (4, 38) :: (5, 39) :: (6, 40) :: (7, 41) :: (8, 42) :: (9, 43) :: (10, 44) :: []) ((0, 34) :: (1, 35) :: (2, 36) :: (3, 37) :: (4, 38) :: (5, 39) :: (6, 40) :: (7, 41) :: (8, 42) :: (9, 43) :: (10, 44) :: []) (.det _ :: .det _ :: .det _ :: .det _ :: .det _ :: .det _ :: .det _ :: .det _ :: .det _ :: .det _ :: .det _ :: []) (by kernel_rfl) (by kernel_rfl) (by kernel_rfl) rfl (by kernel_rfl) (by kernel_rfl) rfl (by kernel_rfl) ?hone ?hend
   case hone =>
    intro CS frS VS hCS ha hV
    have qs2 := slot_val (t := 2) ha rfl
    simp only [List.getElem_toArray, List.getElem_cons_succ, List.getElem_cons_zero] at qs2
    have qs3 := slot_val (t := 3) ha rfl
    simp only [List.getElem_toArray, List.getElem_cons_succ, List.getElem_cons_zero] at qs3
    have qs5 := slot_val (t := 5) ha rfl
    simp only [List.getElem_toArray, List.getElem_cons_succ, List.getElem_cons_zero] at qs5
    have HCS := Lib.hid hCS
    have HVS := Lib.hid hV
    clear ha hCS hV
    refine sure_det (js := []) (ts := [2]) (gd := none) (place_at HVS.out (k := 0) rfl) (by rw [HCS.out]; kernel_rfl) ?_ ?_
    ·intro wx hx ρ hρ hs hf; have hρc := hρ.const; have hρf := hρ.func
     obtain ⟨fx2, -⟩ := hf; rw [qs2] at fx2
     clear hs
     clear HCS HVS qs2 qs3 qs5
     refine run_plain ?_
     unfold runs
     go_simp
     exact detK.mk
    refine sure_det (js := [(0, 34)]) (ts := []) (gd := none) (place_at HVS.out (k := 1) rfl) (by rw [HCS.out]; kernel_rfl) ?_ ?_
    ·intro wx hx ρ hρ hs hf; have hρc := hρ.const; have hρf := hρ.func; obtain ⟨sn0, -⟩ := hs; rw [place_at HVS.out (k := 0) rfl] at sn0; replace sn0 : ρ (.tmp 34) = _ := sn0
     clear hf
     clear HCS HVS qs2 qs3 qs5
     refine run_plain ?_
     obtain ⟨p0, p1, p2, p3⟩ := hX wx hx
     unfold runs
     go_simp
     exact detK.mk
    refine sure_det (js := []) (ts := [5]) (gd := none) (place_at HVS.out (k := 2) rfl) (by rw [HCS.out]; kernel_rfl) ?_ ?_
    ·intro wx hx ρ hρ hs hf; have hρc := hρ.const; have hρf := hρ.func
     obtain ⟨fx5, -⟩ := hf; rw [qs5] at fx5
     clear hs
     clear HCS HVS qs2 qs3 qs5
     refine run_plain ?_
     refine op_move rfl fx5 ?_
     exact detK.mk
    refine sure_det (js := [(1, 35), (2, 36)]) (ts := []) (gd := none) (place_at HVS.out (k := 3) rfl) (by rw [HCS.out]; kernel_rfl) ?_ ?_
    ·intro wx hx ρ hρ hs hf; have hρc := hρ.const; have hρf := hρ.func; obtain ⟨sn1, sn2, -⟩ := hs; rw [place_at HVS.out (k := 1) rfl] at sn1; replace sn1 : ρ (.tmp 35) = _ := sn1; rw [place_at HVS.out (k := 2) rfl] at sn2; replace sn2 : ρ (.tmp 36) = _ := sn2
     clear hf
     clear HCS HVS qs2 qs3 qs5
     refine run_plain ?_
     unfold runs
     go_simp
     exact detK.mk
    refine sure_det (js := [(3, 37)]) (ts := []) (gd := none) (place_at HVS.out (k := 4) rfl) (by rw [HCS.out]; kernel_rfl) ?_ ?_
    ·intro wx hx ρ hρ hs hf; have hρc := hρ.const; have hρf := hρ.func; obtain ⟨sn3, -⟩ := hs; rw [place_at HVS.out (k := 3) rfl] at sn3; replace sn3 : ρ (.tmp 37) = _ := sn3
     clear hf
     clear HCS HVS qs2 qs3 qs5
     refine run_plain ?_
     obtain ⟨p0, p1, p2, p3⟩ := hX wx hx
     unfold runs
     go_simp
     exact detK.mk
    refine sure_det (js := []) (ts := [3]) (gd := none) (place_at HVS.out (k := 5) rfl) (by rw [HCS.out]; kernel_rfl) ?_ ?_
    ·intro wx hx ρ hρ hs hf; have hρc := hρ.const; have hρf := hρ.func
     obtain ⟨fx3, -⟩ := hf; rw [qs3] at fx3
     clear hs
     clear HCS HVS qs2 qs3 qs5
     refine run_plain ?_
     unfold runs
     go_simp
     exact detK.mk
    refine sure_det (js := [(5, 39)]) (ts := []) (gd := none) (place_at HVS.out (k := 6) rfl) (by rw [HCS.out]; kernel_rfl) ?_ ?_
    ·intro wx hx ρ hρ hs hf; have hρc := hρ.const; have hρf := hρ.func; obtain ⟨sn5, -⟩ := hs; rw [place_at HVS.out (k := 5) rfl] at sn5; replace sn5 : ρ (.tmp 39) = _ := sn5
     clear hf
     clear HCS HVS qs2 qs3 qs5
     refine run_plain ?_
     obtain ⟨p0, p1, p2, p3⟩ := hX wx hx
     unfold runs
     go_simp
     exact detK.mk
    refine sure_det (js := []) (ts := [5]) (gd := none) (place_at HVS.out (k := 7) rfl) (by rw [HCS.out]; kernel_rfl) ?_ ?_
    ·intro wx hx ρ hρ hs hf; have hρc := hρ.const; have hρf := hρ.func
     obtain ⟨fx5, -⟩ := hf; rw [qs5] at fx5
     clear hs
     clear HCS HVS qs2 qs3 qs5
     refine run_plain ?_
     refine op_move rfl fx5 ?_
     exact detK.mk
    refine sure_det (js := [(6, 40), (7, 41)]) (ts := []) (gd := none) (place_at HVS.out (k := 8) rfl) (by rw [HCS.out]; kernel_rfl) ?_ ?_
    ·intro wx hx ρ hρ hs hf; have hρc := hρ.const; have hρf := hρ.func; obtain ⟨sn6, sn7, -⟩ := hs; rw [place_at HVS.out (k := 6) rfl] at sn6; replace sn6 : ρ (.tmp 40) = _ := sn6; rw [place_at HVS.out (k := 7) rfl] at sn7; replace sn7 : ρ (.tmp 41) = _ := sn7
     clear hf
     clear HCS HVS qs2 qs3 qs5
     refine run_plain ?_
     unfold runs
     go_simp
     exact detK.mk
    refine sure_det (js := [(8, 42)]) (ts := []) (gd := none) (place_at HVS.out (k := 9) rfl) (by rw [HCS.out]; kernel_rfl) ?_ ?_
    ·intro wx hx ρ hρ hs hf; have hρc := hρ.const; have hρf := hρ.func; obtain ⟨sn8, -⟩ := hs; rw [place_at HVS.out (k := 8) rfl] at sn8; replace sn8 : ρ (.tmp 42) = _ := sn8
     clear hf
     clear HCS HVS qs2 qs3 qs5
     refine run_plain ?_
     obtain ⟨p0, p1, p2, p3⟩ := hX wx hx
     unfold runs
     go_simp
     exact detK.mk
    refine sure_det (js := [(4, 38), (9, 43)]) (ts := []) (gd := none) (place_at HVS.out (k := 10) rfl) (by rw [HCS.out]; kernel_rfl) ?_ ?_
    ·intro wx hx ρ hρ hs hf; have hρc := hρ.const; have hρf := hρ.func; obtain ⟨sn4, sn9, -⟩ := hs; rw [place_at HVS.out (k := 4) rfl] at sn4; replace sn4 : ρ (.tmp 38) = _ := sn4; rw [place_at HVS.out (k := 9) rfl] at sn9; replace sn9 : ρ (.tmp 43) = _ := sn9
     clear hf
     clear HCS HVS qs2 qs3 qs5
     refine run_plain ?_
     unfold runs
     go_simp
     exact detK.mk
    exact trivial
   case hend =>
    intro xs wx hx hg
    have gk0 : xs 0 = _ := goods_get hg (i := 0) (j := 0) (d := 34) rfl
    have gk1 : xs 1 = _ := goods_get hg (i := 1) (j := 1) (d := 35) rfl
    have gk2 : xs 2 = _ := goods_get hg (i := 2) (j := 2) (d := 36) rfl
    have gk3 : xs 3 = _ := goods_get hg (i := 3) (j := 3) (d := 37) rfl
    have gk4 : xs 4 = _ := goods_get hg (i := 4) (j := 4) (d := 38) rfl
    have gk5 : xs 5 = _ := goods_get hg (i := 5) (j := 5) (d := 39) rfl
    have gk6 : xs 6 = _ := goods_get hg (i := 6) (j := 6) (d := 40) rfl
    have gk7 : xs 7 = _ := goods_get hg (i := 7) (j := 7) (d := 41) rfl
    have gk8 : xs 8 = _ := goods_get hg (i := 8) (j := 8) (d := 42) rfl
    have gk9 : xs 9 = _ := goods_get hg (i := 9) (j := 9) (d := 43) rfl
    have gk10 : xs 10 = _ := goods_get hg (i := 10) (j := 10) (d := 44) rfl
    clear hg
    simp only [putAll, gk0, gk1, gk2, gk3, gk4, gk5, gk6, gk7, gk8, gk9, gk10]
    clear gk0 gk1 gk2 gk3 gk4 gk5 gk6 gk7 gk8 gk9 gk10
    clear xs
    simp only [Act.put, List.setIfInBounds_toArray, List.set_cons_zero, List.set_cons_succ]
    go_wp2
    go_roundw
    case rel => exact ⟨j + 1, by omega, by go_num, hxr.trans hx.drawn⟩
    case measure => simp [intOf]; omega
  ·clear hbox hA hB
   go_wp2
   go_ret
   exact ⟨rfl, hE.trans hxr⟩
end Go.Proofs.Ytkdjmfaodojmfaa

namespace Go.Proofs.Ytkdjmfaodojmfaa
open Go.RowKit

/-! wealdref07: Few, with what it sums. -/
def sumQ : List St → Nat
  | [] => 0
  | s :: l => s.q + sumQ l
theorem sumQ_append : ∀ a b : List St, sumQ (a ++ b) = sumQ a + sumQ b
  | [], b => by simp [sumQ]
  | x :: a, b => by simp [sumQ, sumQ_append a b, Nat.add_assoc]
theorem sumQ_le {K : Nat} : ∀ {l : List St}, (∀ s ∈ l, s.q ≤ K) → sumQ l ≤ l.length * K
  | [], _ => Nat.zero_le _
  | s :: l, h => by
    have h1 := h s (by simp)
    have h2 := sumQ_le (l := l) fun x hx => h x (by simp [hx])
    simp only [sumQ, List.length_cons, Nat.succ_mul]
    omega
theorem sumQ_mem : ∀ {l : List St} {s : St}, s ∈ l → s.q ≤ sumQ l
  | x :: l, s, h => by
    simp only [sumQ]
    rcases List.mem_cons.1 h with rfl | h
    · omega
    · have := sumQ_mem h; omega
theorem sumQ_take {l : List St} {j : Nat} {s : St} (h : l[j]? = some s) : sumQ (l.take (j + 1)) = sumQ (l.take j) + s.q := by
  rw [List.take_add_one, h, sumQ_append]; simp [sumQ]
def Few7S (n0 n1 : Nat) (l0 l1 : List St) (e : Ending) : Prop := ∃ b : Bool, e = .returned (.bool b) ∧ (b = true → n0 ≤ 8 ∧ n1 ≤ 8 ∧ sumQ l0 + sumQ l1 ≤ 4000)
set_option maxRecDepth 100000 in
set_option maxHeartbeats 4000000 in
theorem few7_sum (R : Int) (A0 A1 : Option Addr) (n0 c0 n1 c1 : Nat) (l0 l1 : List St) (w : World) (h0 : RowV w A0 n0 c0 l0) (h1 : RowV w A1 n1 c1 l1) (hz0 : ∀ s ∈ l0, s.q ≤ 140737488351232) (hz1 : ∀ s ∈ l1, s.q ≤ 140737488351232) :
    Calls Try.prog 69 #[.agg #[.int .u64 R, .slice A0 n0 c0, .slice A1 n1 c1]] w fun e w' => Few7S n0 n1 l0 l1 e ∧ Ext w w' := by
  have hlen0 := h0.len
  have hlen1 := h1.len
  have hcap0 := Nat.le_trans h0.le h0.cap
  have hcap1 := Nat.le_trans h1.le h1.cap
  simp only [maxLen] at hcap0 hcap1
  have hW : Ext w (w.alloc (.cells #[.int .u64 R, .slice A0 n0 c0, .slice A1 n1 c1] 49)) := (Below.refl _ w).alloc (Nat.le_refl _) _
  have hE : (w.alloc (.cells #[.int .u64 R, .slice A0 n0 c0, .slice A1 n1 c1] 49)).heap[w.heap.size]? = some (.cells #[.int .u64 R, .slice A0 n0 c0, .slice A1 n1 c1] 49 (0, 0)) := heap_alloc_new w _
  go_enter Try.func69, Try.ntmps69
  go_upto_region 1 with (fail)
  generalize w.alloc (.cells #[.int .u64 R, .slice A0 n0 c0, .slice A1 n1 c1] 49) = W at *
  have e0 : W.cell? ⟨w.heap.size, 0, none⟩ = some (.int .u64 R) := by simp [World.cell?, hE]
  have e1 : W.cell? ⟨w.heap.size, 1, none⟩ = some (.slice A0 n0 c0) := by simp [World.cell?, hE]
  have e2 : W.cell? ⟨w.heap.size, 2, none⟩ = some (.slice A1 n1 c1) := by simp [World.cell?, hE]
  clear hE
  rcases (Decidable.em (n0 ≤ 8)).symm with h8 | h8
  · have h8' : (8 : Int) < (n0 : Int) := by omega
    go_wp2
    go_ret
    exact ⟨⟨false, rfl, fun h => by cases h⟩, hW⟩
  rcases (Decidable.em (n1 ≤ 8)).symm with h9 | h9
  · have h8' : ¬ (8 : Int) < (n0 : Int) := by omega
    have h9' : (8 : Int) < (n1 : Int) := by omega
    go_wp2
    go_ret
    exact ⟨⟨false, rfl, fun h => by cases h⟩, hW⟩
  have h8' : ¬ (8 : Int) < (n0 : Int) := by omega
  have h9' : ¬ (8 : Int) < (n1 : Int) := by omega
  have hs0 := sumQ_le hz0
  have hs1 := sumQ_le hz1
  rw [hlen0] at hs0
  rw [hlen1] at hs1
  have hm0 : n0 * 140737488351232 ≤ 8 * 140737488351232 := Nat.mul_le_mul_right _ h8
  have hm1 : n1 * 140737488351232 ≤ 8 * 140737488351232 := Nat.mul_le_mul_right _ h9
  have hb0 : sumQ l0 ≤ 1125899906809856 := by omega
  have hb1 : sumQ l1 ≤ 1125899906809856 := by omega
  clear hs0 hs1 hm0 hm1
  go_wp2
  go_loopw [3, 4] (fun nv r wr => W = wr ∧ ((r = .int .i64 0 ∧ nv = .int .i64 0) ∨ (r = .int .i64 1 ∧ nv = .int .i64 (sumQ l0 : Nat)) ∨ (r = .int .i64 2 ∧ nv = .int .i64 (sumQ l0 + sumQ l1 : Nat)))) (fun _ r _ => 2 - (intOf r).toNat)
  case atStart => exact ⟨rfl, .inl ⟨rfl, rfl⟩⟩
  case round =>
    obtain ⟨rfl, ⟨rfl, rfl⟩ | ⟨rfl, rfl⟩ | ⟨rfl, rfl⟩⟩ := hrel
    · go_wp2
      go_loopw [3, 5] (fun nv i wr => W = wr ∧ ∃ j : Nat, j ≤ n0 ∧ i = .int .i64 j ∧ nv = .int .i64 (sumQ (l0.take j) : Nat)) (fun _ i _ => n0 - (intOf i).toNat)
      case atStart => exact ⟨rfl, 0, Nat.zero_le _, rfl, by simp [sumQ]⟩
      case round =>
        obtain ⟨rfl, j, hj, rfl, rfl⟩ := hrel
        rcases Nat.lt_or_ge j n0 with hjn | hjn
        · have hs : l0[j]? = some (l0[j]'(by omega)) := List.getElem?_eq_getElem _
          generalize (l0[j]'(by omega)) = s at *
          obtain ⟨a, rfl, a0, -, -⟩ := (h0.ext hW).at hs
          have hini : (j : Int) < (n0 : Int) := by omega
          have hst := sumQ_take hs
          have hle : sumQ (l0.take (j + 1)) ≤ sumQ l0 := by
            have := sumQ_append (l0.take (j + 1)) (l0.drop (j + 1))
            rw [List.take_append_drop] at this
            omega
          have hsum : IntKind.i64.wrap (((sumQ (l0.take j) : Nat) : Int) + (s.q : Int)) = ((sumQ (l0.take (j + 1)) : Nat) : Int) := by rw [IntKind.wrap_i64]; omega
          generalize hP : (sumQ (l0.take j)) = P at *
          clear hP
          go_wp2
          go_roundw
          case rel => exact ⟨by trivial, j + 1, by omega, by go_num, by rw [← hsum]; go_num⟩
          case measure => simp [intOf]; omega
        · obtain rfl : j = n0 := by omega
          have htk : l0.take j = l0 := List.take_of_length_le (by omega)
          rw [htk]
          go_wp2
          go_roundw
          case rel => exact ⟨by trivial, .inr (.inl ⟨by go_num, rfl⟩)⟩
          case measure => simp [intOf]
    · go_wp2
      go_loopw [3, 5] (fun nv i wr => W = wr ∧ ∃ j : Nat, j ≤ n1 ∧ i = .int .i64 j ∧ nv = .int .i64 (sumQ l0 + sumQ (l1.take j) : Nat)) (fun _ i _ => n1 - (intOf i).toNat)
      case atStart => exact ⟨rfl, 0, Nat.zero_le _, rfl, by simp [sumQ]⟩
      case round =>
        obtain ⟨rfl, j, hj, rfl, rfl⟩ := hrel
        rcases Nat.lt_or_ge j n1 with hjn | hjn
        · have hs : l1[j]? = some (l1[j]'(by omega)) := List.getElem?_eq_getElem _
          generalize (l1[j]'(by omega)) = s at *
          obtain ⟨a, rfl, a0, -, -⟩ := (h1.ext hW).at hs
          have hini : (j : Int) < (n1 : Int) := by omega
          have hst := sumQ_take hs
          have hle : sumQ (l1.take (j + 1)) ≤ sumQ l1 := by
            have := sumQ_append (l1.take (j + 1)) (l1.drop (j + 1))
            rw [List.take_append_drop] at this
            omega
          have hsum : IntKind.i64.wrap (((sumQ l0 + sumQ (l1.take j) : Nat) : Int) + (s.q : Int)) = ((sumQ l0 + sumQ (l1.take (j + 1)) : Nat) : Int) := by rw [IntKind.wrap_i64]; omega
          generalize hP : (sumQ l0 + sumQ (l1.take j)) = P at *
          clear hP
          go_wp2
          go_roundw
          case rel => exact ⟨by trivial, j + 1, by omega, by go_num, by rw [← hsum]; go_num⟩
          case measure => simp [intOf]; omega
        · obtain rfl : j = n1 := by omega
          have htk : l1.take j = l1 := List.take_of_length_le (by omega)
          rw [htk]
          go_wp2
          go_roundw
          case rel => exact ⟨by trivial, .inr (.inr ⟨by go_num, rfl⟩)⟩
          case measure => simp [intOf]
    · by_cases h4 : sumQ l0 + sumQ l1 ≤ 4000
      · have h4' : ((sumQ l0 + sumQ l1 : Nat) : Int) ≤ 4000 := by omega
        generalize sumQ l0 + sumQ l1 = P at h4' ⊢
        go_wp2
        go_ret
        exact ⟨⟨true, rfl, fun _ => ⟨h8, h9, h4⟩⟩, hW⟩
      · have h4' : ¬ ((sumQ l0 + sumQ l1 : Nat) : Int) ≤ 4000 := by omega
        generalize sumQ l0 + sumQ l1 = P at h4' ⊢
        go_wp2
        go_ret
        exact ⟨⟨false, rfl, fun h => by cases h⟩, hW⟩
end Go.Proofs.Ytkdjmfaodojmfaa

namespace Go.Proofs.Ytkdjmfaodojmfaa
open Go.RowKit

/-! Which worlds are right, and small. -/
def rightW (T C : Int) (q n0 n1 : Nat) (l0 l1 : List St) : Bool := rightM T C q && (rightD n0 n1 l0 l1 && ((n0 : Int) == T))
set_option maxRecDepth 100000 in
set_option maxHeartbeats 1000000 in
theorem accright_any (T C : Int) (A : Option Addr) (q c : Nat) (R : Int) (A0 A1 : Option Addr) (n0 c0 n1 c1 : Nat) (l0 l1 : List St) (w : World) (h0 : RowV w A0 n0 c0 l0) (h1 : RowV w A1 n1 c1 l1) :
    Calls Try.prog 106 #[.agg #[.int .i64 T, .int .i64 C, .slice A q c, .int .u64 R, .slice A0 n0 c0, .slice A1 n1 c1]] w fun e w' => e = .returned (.bool (rightW T C q n0 n1 l0 l1)) ∧ Ext w w' := by
  have hW : Ext w (w.alloc (.cells #[.int .i64 T, .int .i64 C, .slice A q c, .int .u64 R, .slice A0 n0 c0, .slice A1 n1 c1] 51)) := (Below.refl _ w).alloc (Nat.le_refl _) _
  have hE : (w.alloc (.cells #[.int .i64 T, .int .i64 C, .slice A q c, .int .u64 R, .slice A0 n0 c0, .slice A1 n1 c1] 51)).heap[w.heap.size]? = some (.cells #[.int .i64 T, .int .i64 C, .slice A q c, .int .u64 R, .slice A0 n0 c0, .slice A1 n1 c1] 51 (0, 0)) := heap_alloc_new w _
  go_enter Try.func106, Try.ntmps106
  go_upto_region 1 with (fail)
  generalize w.alloc (.cells #[.int .i64 T, .int .i64 C, .slice A q c, .int .u64 R, .slice A0 n0 c0, .slice A1 n1 c1] 51) = W at *
  have hX : ∀ wx, Ext W wx → wx.cell? ⟨w.heap.size, 0, none⟩ = some (.int .i64 T) ∧ wx.cell? ⟨w.heap.size, 1, none⟩ = some (.int .i64 C) ∧ wx.cell? ⟨w.heap.size, 2, none⟩ = some (.slice A q c) ∧ wx.cell? ⟨w.heap.size, 3, none⟩ = some (.int .u64 R) ∧ wx.cell? ⟨w.heap.size, 4, none⟩ = some (.slice A0 n0 c0) ∧ wx.cell? ⟨w.heap.size, 5, none⟩ = some (.slice A1 n1 c1) := fun wx hx =>
    ⟨hx.cell (by simp [World.cell?, hE]), hx.cell (by simp [World.cell?, hE]), hx.cell (by simp [World.cell?, hE]), hx.cell (by simp [World.cell?, hE]), hx.cell (by simp [World.cell?, hE]), hx.cell (by simp [World.cell?, hE])⟩
  obtain ⟨e0, e1, e2, e3, e4, e5⟩ := hX W (Ext.refl _)
  go_wp2_with fail
  refine (cright_any T C A q c _).mono ?_
  rintro e w1 ⟨rfl, hx1⟩
  clear e0 e1 e2 e3 e4 e5
  obtain ⟨e0, e1, e2, e3, e4, e5⟩ := hX w1 hx1
  cases hm : rightM T C q
  · have hrw : rightW T C q n0 n1 l0 l1 = false := by simp [rightW, hm]
    go_wp2
    go_ret
    exact ⟨by rw [hrw]; rfl, hW.trans hx1⟩
  · go_wp2_with fail
    refine (dright_any R A0 A1 n0 c0 n1 c1 l0 l1 _ (h0.ext (hW.trans hx1)) (h1.ext (hW.trans hx1))).mono ?_
    rintro e w2 ⟨rfl, hx2⟩
    clear e0 e1 e2 e3 e4 e5
    obtain ⟨e0, e1, e2, e3, e4, e5⟩ := hX w2 (hx1.trans hx2)
    cases hd : rightD n0 n1 l0 l1
    · have hrw : rightW T C q n0 n1 l0 l1 = false := by simp [rightW, hd]
      go_wp2
      go_ret
      exact ⟨by rw [hrw]; rfl, (hW.trans hx1).trans hx2⟩
    · have hrw : rightW T C q n0 n1 l0 l1 = ((n0 : Int) == T) := by simp [rightW, hd, hm]
      go_wp2
      go_ret
      exact ⟨by rw [hrw]; rfl, (hW.trans hx1).trans hx2⟩
set_option maxRecDepth 100000 in
set_option maxHeartbeats 1000000 in
theorem raright_any (T C : Int) (A : Option Addr) (q c : Nat) (R : Int) (A0 A1 : Option Addr) (n0 c0 n1 c1 : Nat) (l0 l1 : List St) (w : World) (h0 : RowV w A0 n0 c0 l0) (h1 : RowV w A1 n1 c1 l1) :
    Calls Try.prog 105 #[.agg #[.int .i64 T, .int .i64 C, .slice A q c, .int .u64 R, .slice A0 n0 c0, .slice A1 n1 c1]] w fun e w' => e = .returned (.bool (rightW T C q n0 n1 l0 l1)) ∧ Ext w w' := by
  have hW : Ext w (w.alloc (.cells #[.int .i64 T, .int .i64 C, .slice A q c, .int .u64 R, .slice A0 n0 c0, .slice A1 n1 c1] 51)) := (Below.refl _ w).alloc (Nat.le_refl _) _
  have hE : (w.alloc (.cells #[.int .i64 T, .int .i64 C, .slice A q c, .int .u64 R, .slice A0 n0 c0, .slice A1 n1 c1] 51)).heap[w.heap.size]? = some (.cells #[.int .i64 T, .int .i64 C, .slice A q c, .int .u64 R, .slice A0 n0 c0, .slice A1 n1 c1] 51 (0, 0)) := heap_alloc_new w _
  go_enter Try.func105, Try.ntmps105
  go_upto_region 1 with (fail)
  generalize w.alloc (.cells #[.int .i64 T, .int .i64 C, .slice A q c, .int .u64 R, .slice A0 n0 c0, .slice A1 n1 c1] 51) = W at *
  have hX : ∀ wx, Ext W wx → wx.cell? ⟨w.heap.size, 0, none⟩ = some (.int .i64 T) ∧ wx.cell? ⟨w.heap.size, 1, none⟩ = some (.int .i64 C) ∧ wx.cell? ⟨w.heap.size, 2, none⟩ = some (.slice A q c) ∧ wx.cell? ⟨w.heap.size, 3, none⟩ = some (.int .u64 R) ∧ wx.cell? ⟨w.heap.size, 4, none⟩ = some (.slice A0 n0 c0) ∧ wx.cell? ⟨w.heap.size, 5, none⟩ = some (.slice A1 n1 c1) := fun wx hx =>
    ⟨hx.cell (by simp [World.cell?, hE]), hx.cell (by simp [World.cell?, hE]), hx.cell (by simp [World.cell?, hE]), hx.cell (by simp [World.cell?, hE]), hx.cell (by simp [World.cell?, hE]), hx.cell (by simp [World.cell?, hE])⟩
  obtain ⟨e0, e1, e2, e3, e4, e5⟩ := hX W (Ext.refl _)
  go_wp2_with fail
  refine (mright_any T C A q c _).mono ?_
  rintro e w1 ⟨rfl, hx1⟩
  clear e0 e1 e2 e3 e4 e5
  obtain ⟨e0, e1, e2, e3, e4, e5⟩ := hX w1 hx1
  go_wp2_with fail
  refine (rright7_any R A0 A1 n0 c0 n1 c1 l0 l1 _ (h0.ext (hW.trans hx1)) (h1.ext (hW.trans hx1))).mono ?_
  rintro e w2 ⟨rfl, hx2⟩
  clear e0 e1 e2 e3 e4 e5
  obtain ⟨e0, e1, e2, e3, e4, e5⟩ := hX w2 (hx1.trans hx2)
  have hfin := (hW.trans hx1).trans hx2
  cases hm : rightM T C q
  · have hrw : rightW T C q n0 n1 l0 l1 = false := by simp [rightW, hm]
    go_wp2
    go_ret
    exact ⟨by rw [hrw]; rfl, hfin⟩
  · cases hd : rightD n0 n1 l0 l1
    · have hrw : rightW T C q n0 n1 l0 l1 = false := by simp [rightW, hd]
      go_wp2
      go_ret
      exact ⟨by rw [hrw]; rfl, hfin⟩
    · have hrw : rightW T C q n0 n1 l0 l1 = ((n0 : Int) == T) := by simp [rightW, hd, hm]
      go_wp2
      go_ret
      exact ⟨by rw [hrw]; rfl, hfin⟩
end Go.Proofs.Ytkdjmfaodojmfaa

namespace Go.Proofs.Ytkdjmfaodojmfaa
open Go.RowKit

/-! wealdref10.New. -/
def newW (t c : Nat) : WldK := ⟨(t : Int), (c : Int), (List.range (memL t c)).map (newF t c c), 0, newN (t : Int), List.replicate (newN (t : Int)) ([], 0), List.replicate (newN (t : Int)) ([], 0)⟩
set_option maxRecDepth 100000 in
set_option maxHeartbeats 1000000 in
theorem ranew_yes (t c : Nat) (ht1 : 1 ≤ t) (ht2 : t ≤ 64) (hc : c ≤ 65536) (w : World) :
    Calls Try.prog 21 #[.int .i64 t, .int .i64 c] w fun e w' => ∃ v', e = .returned v' ∧ WldV w' v' (newW t c) ∧ Ext w w' := by
  have hk : codeB (decide (1 ≤ (t : Int) ∧ (t : Int) ≤ 64)) = 0 := by simp [codeB]; omega
  go_enter Try.func21, Try.ntmps21
  go_upto_region 1 with (fail)
  have hE0 : Ext w (w.alloc (.cells #[.int .i64 0, .int .i64 0, .slice none 0 0, .int .u64 0, .slice none 0 0, .slice none 0 0] 51)) := (Below.refl _ w).alloc (Nat.le_refl _) _
  have hR0 := heap_alloc_new w (.cells #[.int .i64 0, .int .i64 0, .slice none 0 0, .int .u64 0, .slice none 0 0, .slice none 0 0] 51)
  generalize w.alloc (.cells #[.int .i64 0, .int .i64 0, .slice none 0 0, .int .u64 0, .slice none 0 0, .slice none 0 0] 51) = W0 at *
  go_wp2_with fail
  refine (rnew_yes t c ht1 ht2 hc _).mono ?_
  rintro e w1 ⟨g, rfl, hg, hWd, hx1⟩
  go_upto_region 2 with (fail)
  have hx2 : Ext w1 (w1.alloc (.cells #[.int .i64 t, .int .i64 c, .slice (some ⟨g, 0, none⟩) (memL t c) (memL t c)] 45)) := (Below.refl _ w1).alloc (Nat.le_refl _) _
  have hM := heap_alloc_new w1 (.cells #[.int .i64 t, .int .i64 c, .slice (some ⟨g, 0, none⟩) (memL t c) (memL t c)] 45)
  have hV : WordsV w1 (some ⟨g, 0, none⟩) (memL t c) (memL t c) ((List.range (memL t c)).map (newF t c c)) := hWd.v (by unfold memL maxLen; omega) fun i hi => ⟨(newF_u64 hi hc).1, by have := (newF_u64 (r := c) hi hc).2; omega⟩
  replace hV := hV.ext hx2
  replace hx1 := hx1.trans hx2
  generalize w1.alloc (.cells #[.int .i64 t, .int .i64 c, .slice (some ⟨g, 0, none⟩) (memL t c) (memL t c)] 45) = W1 at *
  generalize hgM : w1.heap.size = gM at *
  clear hx2 hWd hgM
  go_wp2_with fail
  refine (rnew_K t _).mono ?_
  rintro e w2 ⟨v2, rfl, hd, hx3⟩
  rw [hk]
  obtain ⟨A0, A1, c0, c1, rfl⟩ := hd.form
  generalize hN : newN (t : Int) = N at *
  go_upto_region 3 with (fail)
  have hx4 : Ext w2 (w2.alloc (.cells #[.int .u64 0, .slice A0 N c0, .slice A1 N c1] 49)) := (Below.refl _ w2).alloc (Nat.le_refl _) _
  have hD := heap_alloc_new w2 (.cells #[.int .u64 0, .slice A0 N c0, .slice A1 N c1] 49)
  generalize w2.alloc (.cells #[.int .u64 0, .slice A0 N c0, .slice A1 N c1] 49) = W2 at *
  generalize w2.heap.size = gD at *
  replace hx3 := hx3.trans hx4
  replace hd := hd.ext hx4
  replace hV := hV.ext hx3
  replace hM := heap_ext hM hx3
  have hR := heap_ext hR0 (hx1.trans hx3)
  have hE := hE0.trans (hx1.trans hx3)
  clear hx1 hx3 hx4 hR0 hE0
  have m0 : W2.cell? ⟨gM, 0, none⟩ = some (.int .i64 t) := by simp [World.cell?, hM]
  have m1 : W2.cell? ⟨gM, 1, none⟩ = some (.int .i64 c) := by simp [World.cell?, hM]
  have m2 : W2.cell? ⟨gM, 2, none⟩ = some (.slice (some ⟨g, 0, none⟩) (memL t c) (memL t c)) := by simp [World.cell?, hM]
  have d0 : W2.cell? ⟨gD, 0, none⟩ = some (.int .u64 0) := by simp [World.cell?, hD]
  have d1 : W2.cell? ⟨gD, 1, none⟩ = some (.slice A0 N c0) := by simp [World.cell?, hD]
  have d2 : W2.cell? ⟨gD, 2, none⟩ = some (.slice A1 N c1) := by simp [World.cell?, hD]
  have r0 : W2.cell? ⟨w.heap.size, 0, none⟩ = some (.int .i64 0) := by simp [World.cell?, hR]
  have rf0 : W2.frozen? ⟨w.heap.size, 0, none⟩ = false := by simp [World.frozen?, hR]
  have r1 : W2.cell? ⟨w.heap.size, 1, none⟩ = some (.int .i64 0) := by simp [World.cell?, hR]
  have rf1 : W2.frozen? ⟨w.heap.size, 1, none⟩ = false := by simp [World.frozen?, hR]
  have r2 : W2.cell? ⟨w.heap.size, 2, none⟩ = some (.slice none 0 0) := by simp [World.cell?, hR]
  have rf2 : W2.frozen? ⟨w.heap.size, 2, none⟩ = false := by simp [World.frozen?, hR]
  have r3 : W2.cell? ⟨w.heap.size, 3, none⟩ = some (.int .u64 0) := by simp [World.cell?, hR]
  have rf3 : W2.frozen? ⟨w.heap.size, 3, none⟩ = false := by simp [World.frozen?, hR]
  have r4 : W2.cell? ⟨w.heap.size, 4, none⟩ = some (.slice none 0 0) := by simp [World.cell?, hR]
  have rf4 : W2.frozen? ⟨w.heap.size, 4, none⟩ = false := by simp [World.frozen?, hR]
  have r5 : W2.cell? ⟨w.heap.size, 5, none⟩ = some (.slice none 0 0) := by simp [World.cell?, hR]
  have rf5 : W2.frozen? ⟨w.heap.size, 5, none⟩ = false := by simp [World.frozen?, hR]
  have hF := But.all w.heap.size [.int .i64 t, .int .i64 c, .slice (some ⟨g, 0, none⟩) (memL t c) (memL t c), .int .u64 0, .slice A0 N c0, .slice A1 N c1] 0 W2
  have hX := setAll_ext (g := w.heap.size) (vs := [.int .i64 t, .int .i64 c, .slice (some ⟨g, 0, none⟩) (memL t c) (memL t c), .int .u64 0, .slice A0 N c0, .slice A1 N c1]) (i := 0) hE (by omega)
  have hRF := setAll_all (vs := [.int .i64 t, .int .i64 c, .slice (some ⟨g, 0, none⟩) (memL t c) (memL t c), .int .u64 0, .slice A0 N c0, .slice A1 N c1]) hR rfl
  simp only [setAll] at hF hX hRF
  go_wp2
  generalize ((((((W2.setCell ⟨w.heap.size, 0, none⟩ (.int .i64 t)).setCell ⟨w.heap.size, 1, none⟩ (.int .i64 c)).setCell ⟨w.heap.size, 2, none⟩ (.slice (some ⟨g, 0, none⟩) (memL t c) (memL t c))).setCell ⟨w.heap.size, 3, none⟩ (.int .u64 0)).setCell ⟨w.heap.size, 4, none⟩ (.slice A0 N c0)).setCell ⟨w.heap.size, 5, none⟩ (.slice A1 N c1)) = wf at *
  clear r0 r1 r2 r3 r4 r5
  have r0 : wf.cell? ⟨w.heap.size, 0, none⟩ = some (.int .i64 t) := by simp [World.cell?, hRF]
  have r1 : wf.cell? ⟨w.heap.size, 1, none⟩ = some (.int .i64 c) := by simp [World.cell?, hRF]
  have r2 : wf.cell? ⟨w.heap.size, 2, none⟩ = some (.slice (some ⟨g, 0, none⟩) (memL t c) (memL t c)) := by simp [World.cell?, hRF]
  have r3 : wf.cell? ⟨w.heap.size, 3, none⟩ = some (.int .u64 0) := by simp [World.cell?, hRF]
  have r4 : wf.cell? ⟨w.heap.size, 4, none⟩ = some (.slice A0 N c0) := by simp [World.cell?, hRF]
  have r5 : wf.cell? ⟨w.heap.size, 5, none⟩ = some (.slice A1 N c1) := by simp [World.cell?, hRF]
  refine bodyPost_ret (v := .agg #[.int .i64 t, .int .i64 c, .slice (some ⟨g, 0, none⟩) (memL t c) (memL t c), .int .u64 0, .slice A0 N c0, .slice A1 N c1]) (by simp [results, Try.results21, go_sem, r0, r1, r2, r3, r4, r5]) rfl ⟨_, rfl, ?_, hX⟩
  subst hN
  exact ⟨_, _, _, _, _, _, _, rfl, hV.but (by simp [memL]; omega) hF hR (by rfl), hd.but hF hR (by rfl)⟩

open Go.RowKit

/-! Worlds told by keys: right or not; what stands in their rows. -/
def allR (K : List Key) : Bool := K.all fun k => rightB k.2 k.1.length
def rightX (X : WldK) : Bool := rightM X.T X.C X.ws.length && ((decide (1 ≤ X.n ∧ X.n ≤ 64) && (allR X.K0 && allR X.K1)) && ((X.n : Int) == X.T))
theorem all_keys {w : World} {A : Option Addr} {n c : Nat} {l : List St} (h : RowV w A n c l) : l.all St.right = allR (l.map St.key) := by
  unfold allR
  rw [List.all_map, Bool.eq_iff_iff, List.all_eq_true, List.all_eq_true]
  constructor
  · intro hx s hs
    have h1 := hx s hs
    have h2 : s.d.length = s.q := (h.ok s hs).len
    simp only [Function.comp_apply, St.key, h2]
    exact h1
  · intro hx s hs
    have h1 := hx s hs
    have h2 : s.d.length = s.q := (h.ok s hs).len
    simp only [Function.comp_apply, St.key, h2] at h1
    exact h1
theorem rightW_X {w : World} {T C : Int} {A0 A1 : Option Addr} {ws : List Int} {R : Int} {n c0 c1 : Nat} {l0 l1 : List St} (h0 : RowV w A0 n c0 l0) (h1 : RowV w A1 n c1 l1) : rightW T C ws.length n n l0 l1 = rightX ⟨T, C, ws, R, n, l0.map St.key, l1.map St.key⟩ := by
  simp only [rightW, rightX, rightD, List.all_append, all_keys h0, all_keys h1, and_true]
theorem DkK.rows {w : World} {R : Int} {A0 A1 : Option Addr} {n c0 c1 : Nat} {K0 K1 : List Key} (h : DkK w (.agg #[.int .u64 R, .slice A0 n c0, .slice A1 n c1]) R n K0 K1) : ∃ l0 l1, RowV w A0 n c0 l0 ∧ RowV w A1 n c1 l1 ∧ l0.map St.key = K0 ∧ l1.map St.key = K1 := by
  obtain ⟨l0, l1, ⟨A0', A1', c0', c1', e, h0, h1⟩, h2, h3⟩ := h
  simp only [Value.agg.injEq, Array.mk.injEq, List.cons.injEq, Value.slice.injEq, and_true, true_and] at e
  obtain ⟨⟨rfl, rfl⟩, rfl, rfl⟩ := e
  exact ⟨l0, l1, h0, h1, h2, h3⟩
theorem key_at {w : World} {A : Option Addr} {n c : Nat} {l : List St} (h : RowV w A n c l) {j : Nat} {d : List UInt8} {k : Int} (hj : (l.map St.key)[j]? = some (d, k)) :
    ∃ a D cd, A = some a ∧ w.cell? (a.add (j * 2)) = some (.slice D d.length cd) ∧ BytesV w D d.length cd d := by
  rw [List.getElem?_map] at hj
  obtain ⟨s, hs, he⟩ := Option.map_eq_some_iff.1 hj
  obtain ⟨a, ha, h1, -, h3⟩ := h.at hs
  have hd : s.d = d := (Prod.mk.inj he).1
  have hl : s.d.length = s.q := h3.len
  subst hd
  rw [← hl] at h1
  have h3' : BytesV w s.D s.q s.cd s.d := h3
  rw [← hl] at h3'
  exact ⟨a, s.D, s.cd, ha, h1, h3'⟩
theorem accright_K {v : Value} {X : WldK} {w : World} (h : WldV w v X) :
    Calls Try.prog 106 #[v] w fun e w' => e = .returned (.bool (rightX X)) ∧ Ext w w' := by
  obtain ⟨T, C, ws, R, n, K0, K1⟩ := X
  obtain ⟨A, q, c, A0, A1, c0, c1, rfl, hw, hd⟩ := h
  obtain ⟨l0, l1, h0, h1, rfl, rfl⟩ := hd.rows
  simp only at *
  rw [← rightW_X h0 h1, hw.len]
  exact accright_any T C A q c R A0 A1 n c0 n c1 l0 l1 w h0 h1
end Go.Proofs.Ytkdjmfaodojmfaa

namespace Go.Proofs.Ytkdjmfaodojmfaa
open Go.RowKit

/-! wealdref10.Told, wealdref10.Same: of what is the same. -/
set_option maxRecDepth 100000 in
set_option maxHeartbeats 1000000 in
theorem told_yes {v v' : Value} {r : ResK} {w : World} (h : ResV w v r) (h' : ResV w v' r) :
    Calls Try.prog 110 #[v, v'] w fun e w' => e = .returned (.bool true) ∧ Ext w w' := by
  obtain ⟨z, b, f⟩ := r
  obtain ⟨A, q, c, rfl, h1⟩ := h
  obtain ⟨B, q2, c2, rfl, h2⟩ := h'
  simp only at *
  go_enter Try.func110, Try.ntmps110
  go_upto_region 1 with (fail)
  obtain ⟨hW, hE, hO⟩ := two_boxes7 w (.cells #[.int .u64 z, .slice A q c, .bool f] 130) (.cells #[.int .u64 z, .slice B q2 c2, .bool f] 130)
  generalize (w.alloc (.cells #[.int .u64 z, .slice A q c, .bool f] 130)).alloc (.cells #[.int .u64 z, .slice B q2 c2, .bool f] 130) = W at *
  have e0 : W.cell? ⟨w.heap.size, 0, none⟩ = some (.int .u64 z) := by simp [World.cell?, hE]
  have e1 : W.cell? ⟨w.heap.size, 1, none⟩ = some (.slice A q c) := by simp [World.cell?, hE]
  have e2 : W.cell? ⟨w.heap.size, 2, none⟩ = some (.bool f) := by simp [World.cell?, hE]
  have o0 : W.cell? ⟨w.heap.size + 1, 0, none⟩ = some (.int .u64 z) := by simp [World.cell?, hO]
  have o1 : W.cell? ⟨w.heap.size + 1, 1, none⟩ = some (.slice B q2 c2) := by simp [World.cell?, hO]
  have o2 : W.cell? ⟨w.heap.size + 1, 2, none⟩ = some (.bool f) := by simp [World.cell?, hO]
  have q1 := run_convert_bytesV (P := Try.prog) (h1.ext hW) Try.underlying30 Try.underlying5 Try.underlying9
  have q2' := run_convert_bytesV (P := Try.prog) (h2.ext hW) Try.underlying30 Try.underlying5 Try.underlying9
  cases f
  · go_wp2
    go_ret
    exact ⟨rfl, hW⟩
  · go_wp2
    go_ret
    exact ⟨rfl, hW⟩
set_option maxRecDepth 100000 in
set_option maxHeartbeats 1000000 in
theorem rasame_yes {v v' : Value} {X : WldK} {w : World} (h : WldV w v X) (h' : WldV w v' X) (hn : X.ws.length ≤ 1000000) :
    Calls Try.prog 28 #[v, v'] w fun e w' => e = .returned (.bool true) ∧ Ext w w' := by
  obtain ⟨T, C, ws, R, n, K0, K1⟩ := X
  obtain ⟨A, q, c, A0, A1, c0, c1, rfl, hw, hd⟩ := h
  obtain ⟨B, q', c', B0, B1, b0, b1, rfl, hw2, hd2⟩ := h'
  simp only at *
  obtain rfl : ws.length = q := hw.len
  obtain rfl : ws.length = q' := hw2.len
  generalize hq : ws.length = q at *
  go_enter Try.func28, Try.ntmps28
  go_upto_region 1 with (fail)
  obtain ⟨hW, hE, hO⟩ := two_boxes7 w (.cells #[.int .i64 T, .int .i64 C, .slice A q c, .int .u64 R, .slice A0 n c0, .slice A1 n c1] 51) (.cells #[.int .i64 T, .int .i64 C, .slice B q c', .int .u64 R, .slice B0 n b0, .slice B1 n b1] 51)
  generalize (w.alloc (.cells #[.int .i64 T, .int .i64 C, .slice A q c, .int .u64 R, .slice A0 n c0, .slice A1 n c1] 51)).alloc (.cells #[.int .i64 T, .int .i64 C, .slice B q c', .int .u64 R, .slice B0 n b0, .slice B1 n b1] 51) = W at *
  have e0 : W.cell? ⟨w.heap.size, 0, none⟩ = some (.int .i64 T) := by simp [World.cell?, hE]
  have e1 : W.cell? ⟨w.heap.size, 1, none⟩ = some (.int .i64 C) := by simp [World.cell?, hE]
  have e2 : W.cell? ⟨w.heap.size, 2, none⟩ = some (.slice A q c) := by simp [World.cell?, hE]
  have e3 : W.cell? ⟨w.heap.size, 3, none⟩ = some (.int .u64 R) := by simp [World.cell?, hE]
  have e4 : W.cell? ⟨w.heap.size, 4, none⟩ = some (.slice A0 n c0) := by simp [World.cell?, hE]
  have e5 : W.cell? ⟨w.heap.size, 5, none⟩ = some (.slice A1 n c1) := by simp [World.cell?, hE]
  have o0 : W.cell? ⟨w.heap.size + 1, 0, none⟩ = some (.int .i64 T) := by simp [World.cell?, hO]
  have o1 : W.cell? ⟨w.heap.size + 1, 1, none⟩ = some (.int .i64 C) := by simp [World.cell?, hO]
  have o2 : W.cell? ⟨w.heap.size + 1, 2, none⟩ = some (.slice B q c') := by simp [World.cell?, hO]
  have o3 : W.cell? ⟨w.heap.size + 1, 3, none⟩ = some (.int .u64 R) := by simp [World.cell?, hO]
  have o4 : W.cell? ⟨w.heap.size + 1, 4, none⟩ = some (.slice B0 n b0) := by simp [World.cell?, hO]
  have o5 : W.cell? ⟨w.heap.size + 1, 5, none⟩ = some (.slice B1 n b1) := by simp [World.cell?, hO]
  go_wp2_with fail
  refine (msame_yes T C A B q c c' ws _ (hw.ext hW) (hw2.ext hW) hn).mono ?_
  rintro e w1 ⟨rfl, hx1⟩
  replace hE := heap_ext hE hx1
  replace hO := heap_ext hO hx1
  replace hW := hW.trans hx1
  clear e0 e1 e2 e3 e4 e5 o0 o1 o2 o3 o4 o5
  have e0 : w1.cell? ⟨w.heap.size, 0, none⟩ = some (.int .i64 T) := by simp [World.cell?, hE]
  have e1 : w1.cell? ⟨w.heap.size, 1, none⟩ = some (.int .i64 C) := by simp [World.cell?, hE]
  have e2 : w1.cell? ⟨w.heap.size, 2, none⟩ = some (.slice A q c) := by simp [World.cell?, hE]
  have e3 : w1.cell? ⟨w.heap.size, 3, none⟩ = some (.int .u64 R) := by simp [World.cell?, hE]
  have e4 : w1.cell? ⟨w.heap.size, 4, none⟩ = some (.slice A0 n c0) := by simp [World.cell?, hE]
  have e5 : w1.cell? ⟨w.heap.size, 5, none⟩ = some (.slice A1 n c1) := by simp [World.cell?, hE]
  have o0 : w1.cell? ⟨w.heap.size + 1, 0, none⟩ = some (.int .i64 T) := by simp [World.cell?, hO]
  have o1 : w1.cell? ⟨w.heap.size + 1, 1, none⟩ = some (.int .i64 C) := by simp [World.cell?, hO]
  have o2 : w1.cell? ⟨w.heap.size + 1, 2, none⟩ = some (.slice B q c') := by simp [World.cell?, hO]
  have o3 : w1.cell? ⟨w.heap.size + 1, 3, none⟩ = some (.int .u64 R) := by simp [World.cell?, hO]
  have o4 : w1.cell? ⟨w.heap.size + 1, 4, none⟩ = some (.slice B0 n b0) := by simp [World.cell?, hO]
  have o5 : w1.cell? ⟨w.heap.size + 1, 5, none⟩ = some (.slice B1 n b1) := by simp [World.cell?, hO]
  go_wp2_with fail
  refine (dsame_K (hd.ext hW) (hd2.ext hW)).mono ?_
  rintro e w2 ⟨rfl, hx2⟩
  go_wp2
  go_ret
  exact ⟨rfl, hW.trans hx2⟩
end Go.Proofs.Ytkdjmfaodojmfaa

namespace Go.Proofs.Ytkdjmfaodojmfaa
open Go.RowKit

/-! play.Run: the closure that it defers. -/
def outZero : Array Value := #[.int .i64 0, .bool false, .int .i64 0, .int .u64 0, .slice none 0 0]
def accZero : Array Value := #[.int .i64 0, .int .i64 0, .int .u64 0, .int .u64 0, .slice none 0 0, .slice none 0 0]
theorem assert_nil (T : TypeId) (W : World) : (Instr.typeAssert .nilIface T 157 true).run Try.prog W = .ok (.tuple #[.agg #[.int .i64 0, .int .i64 0, .int .u64 0, .int .u64 0, .slice none 0 0, .slice none 0 0], .bool false]) W := by kernel_rfl
theorem assert_need (T : TypeId) (a : Array Value) (W : World) : (Instr.typeAssert (.iface 157 (.agg a)) T 157 true).run Try.prog W = .ok (.tuple #[.agg a, .bool true]) W := by kernel_rfl
set_option maxRecDepth 100000 in
set_option maxHeartbeats 1000000 in
theorem catch_idle (p q r : Addr) (w : World) :
    CallsD Try.prog 131 #[.pointer (some p), .pointer (some q), .pointer (some r)] .returning w fun e u' w' => e = .returned (.tuple #[]) ∧ u' = .returning ∧ Ext w w' := by
  refine callsD_of_wpS Try.func131 rfl fun c₀ cs hu => ?_
  change Code.wpS _ _ _ ⟨#[.pointer (some p), .pointer (some q), .pointer (some r), undef, undef, undef, undef, undef, undef, undef, undef, undef, undef, undef], []⟩ _ _
  apply wpS_seq
  apply wpS_region
  simp [wpOpsS, go_sem, recoverD, hu, Exit.thenS, assert_nil]
  refine wpS_of_wp ?_
  have hE : Ext w (w.alloc (.cells #[.int .i64 0, .int .i64 0, .int .u64 0, .int .u64 0, .slice none 0 0, .slice none 0 0] 157)) := (Below.refl _ w).alloc (Nat.le_refl _) _
  go_wp2
  cases c₀
  simp_all [bodyPostS, results, Try.results131]
/-- behind the closure that a stop runs into -/
structure Caught (a : Array Value) (gE gO gD : Nat) (w w' : World) : Prop where
  E : w'.heap[gE]? = some (.cells a 33 (0, 0))
  O : w'.heap[gO]? = some (.cells outZero 37 (0, 0))
  D : w'.heap[gD]? = some (.cells #[.bool false] 4 (0, 0))
  size : w.heap.size ≤ w'.heap.size
  os : w'.os = w.os
  tape : w'.tape = w.tape
  output : w'.output = w.output
  block : ∀ k, k < w.heap.size → k ≠ gE → k ≠ gO → k ≠ gD → w'.heap[k]? = w.heap[k]?
set_option maxRecDepth 100000 in
set_option maxHeartbeats 4000000 in
theorem catch_stop (x : Acc) (gE gO gD : Nat) (w : World) (hEO : gE ≠ gO) (hED : gE ≠ gD) (hOD : gO ≠ gD)
    (hgE : w.heap[gE]? = some (.cells accZero 33 (0, 0))) (hgO : w.heap[gO]? = some (.cells outZero 37 (0, 0))) (hgD : w.heap[gD]? = some (.cells #[.bool false] 4 (0, 0))) :
    CallsD Try.prog 131 #[.pointer (some ⟨gE, 0, none⟩), .pointer (some ⟨gO, 0, none⟩), .pointer (some ⟨gD, 0, none⟩)] (.panicking [{ v := .iface 157 (.agg x.cells), recovered := false }]) w fun e u' w' =>
      e = .returned (.tuple #[]) ∧ u' = .panicking [{ v := .iface 157 (.agg x.cells), recovered := true }] ∧ Caught x.cells gE gO gD w w' := by
  obtain ⟨x0, x1, x2, x3, x4, x5, x6, x7, x8, x9⟩ := x
  simp only [Acc.cells]
  refine callsD_of_wpS Try.func131 rfl fun c₀ cs hu => ?_
  change Code.wpS _ _ _ ⟨#[.pointer (some ⟨gE, 0, none⟩), .pointer (some ⟨gO, 0, none⟩), .pointer (some ⟨gD, 0, none⟩), undef, undef, undef, undef, undef, undef, undef, undef, undef, undef, undef], []⟩ _ _
  apply wpS_seq
  apply wpS_region
  simp [wpOpsS, go_sem, recoverD, hu, Exit.thenS, assert_need]
  refine wpS_of_wp ?_
  have hW : Ext w (w.alloc (.cells #[.int .i64 x0, .int .i64 x1, .int .u64 x2, .int .u64 x3, .slice x4 x5 x6, .slice x7 x8 x9] 157)) := (Below.refl _ w).alloc (Nat.le_refl _) _
  have hgN : (w.alloc (.cells #[.int .i64 x0, .int .i64 x1, .int .u64 x2, .int .u64 x3, .slice x4 x5 x6, .slice x7 x8 x9] 157)).heap[w.heap.size]? = some (.cells #[.int .i64 x0, .int .i64 x1, .int .u64 x2, .int .u64 x3, .slice x4 x5 x6, .slice x7 x8 x9] 157 (0, 0)) := heap_alloc_new w _
  replace hgE := heap_ext hgE hW
  replace hgO := heap_ext hgO hW
  replace hgD := heap_ext hgD hW
  have hsz := hW.size
  have hblk := hW.block
  have hos := hW.os
  have hta := hW.tape
  have hou := hW.output
  generalize w.alloc (.cells #[.int .i64 x0, .int .i64 x1, .int .u64 x2, .int .u64 x3, .slice x4 x5 x6, .slice x7 x8 x9] 157) = W at *
  simp only [accZero, outZero] at hgE hgO
  have c0 : W.cell? ⟨gE, 0, none⟩ = some (.int .i64 0) := by simp [World.cell?, hgE]
  have f0 : W.frozen? ⟨gE, 0, none⟩ = false := by simp [World.frozen?, hgE]
  have c1 : W.cell? ⟨gE, 1, none⟩ = some (.int .i64 0) := by simp [World.cell?, hgE]
  have f1 : W.frozen? ⟨gE, 1, none⟩ = false := by simp [World.frozen?, hgE]
  have c2 : W.cell? ⟨gE, 2, none⟩ = some (.int .u64 0) := by simp [World.cell?, hgE]
  have f2 : W.frozen? ⟨gE, 2, none⟩ = false := by simp [World.frozen?, hgE]
  have c3 : W.cell? ⟨gE, 3, none⟩ = some (.int .u64 0) := by simp [World.cell?, hgE]
  have f3 : W.frozen? ⟨gE, 3, none⟩ = false := by simp [World.frozen?, hgE]
  have c4 : W.cell? ⟨gE, 4, none⟩ = some (.slice none 0 0) := by simp [World.cell?, hgE]
  have f4 : W.frozen? ⟨gE, 4, none⟩ = false := by simp [World.frozen?, hgE]
  have c5 : W.cell? ⟨gE, 5, none⟩ = some (.slice none 0 0) := by simp [World.cell?, hgE]
  have f5 : W.frozen? ⟨gE, 5, none⟩ = false := by simp [World.frozen?, hgE]
  have d0 : W.cell? ⟨gO, 0, none⟩ = some (.int .i64 0) := by simp [World.cell?, hgO]
  have g0 : W.frozen? ⟨gO, 0, none⟩ = false := by simp [World.frozen?, hgO]
  have d1 : W.cell? ⟨gO, 1, none⟩ = some (.bool false) := by simp [World.cell?, hgO]
  have g1 : W.frozen? ⟨gO, 1, none⟩ = false := by simp [World.frozen?, hgO]
  have d2 : W.cell? ⟨gO, 2, none⟩ = some (.int .i64 0) := by simp [World.cell?, hgO]
  have g2 : W.frozen? ⟨gO, 2, none⟩ = false := by simp [World.frozen?, hgO]
  have d3 : W.cell? ⟨gO, 3, none⟩ = some (.int .u64 0) := by simp [World.cell?, hgO]
  have g3 : W.frozen? ⟨gO, 3, none⟩ = false := by simp [World.frozen?, hgO]
  have d4 : W.cell? ⟨gO, 4, none⟩ = some (.slice none 0 0) := by simp [World.cell?, hgO]
  have g4 : W.frozen? ⟨gO, 4, none⟩ = false := by simp [World.frozen?, hgO]
  have e0 : W.cell? ⟨gD, 0, none⟩ = some (.bool false) := by simp [World.cell?, hgD]
  have h0 : W.frozen? ⟨gD, 0, none⟩ = false := by simp [World.frozen?, hgD]
  have b0 : W.cell? ⟨w.heap.size, 0, none⟩ = some (.int .i64 x0) := by simp [World.cell?, hgN]
  have b1 : W.cell? ⟨w.heap.size, 1, none⟩ = some (.int .i64 x1) := by simp [World.cell?, hgN]
  have b2 : W.cell? ⟨w.heap.size, 2, none⟩ = some (.int .u64 x2) := by simp [World.cell?, hgN]
  have b3 : W.cell? ⟨w.heap.size, 3, none⟩ = some (.int .u64 x3) := by simp [World.cell?, hgN]
  have b4 : W.cell? ⟨w.heap.size, 4, none⟩ = some (.slice x4 x5 x6) := by simp [World.cell?, hgN]
  have b5 : W.cell? ⟨w.heap.size, 5, none⟩ = some (.slice x7 x8 x9) := by simp [World.cell?, hgN]
  have n1 := Ne.symm hEO
  have n2 := Ne.symm hED
  have n3 := Ne.symm hOD
  clear hW
  have HE := Lib.hid hgE
  have HO := Lib.hid hgO
  have HD := Lib.hid hgD
  have HB := Lib.hid hblk
  clear hgE hgO hgD hgN hblk
  go_wp2
  cases c₀
  simp only at hu
  subst hu
  refine ⟨rfl, _, rfl, .tuple #[], by simp [results, Try.results131], rfl, rfl, ?_⟩
  have HE' := HE.out
  have HO' := HO.out
  have HD' := HD.out
  change Caught _ gE gO gD w (setAll gD 0 [.bool false] (setAll gO 0 [.int .i64 0, .bool false, .int .i64 0, .int .u64 0, .slice none 0 0] (setAll gE 0 [.int .i64 x0, .int .i64 x1, .int .u64 x2, .int .u64 x3, .slice x4 x5 x6, .slice x7 x8 x9] W)))
  refine ⟨?_, ?_, ?_, ?_, ?_, ?_, ?_, ?_⟩
  · rw [setAll_other hED, setAll_other hEO]
    exact setAll_all (old := [.int .i64 0, .int .i64 0, .int .u64 0, .int .u64 0, .slice none 0 0, .slice none 0 0]) HE' rfl
  · rw [setAll_other hOD]
    exact setAll_all (old := [.int .i64 0, .bool false, .int .i64 0, .int .u64 0, .slice none 0 0]) (by rw [setAll_other n1]; exact HO') rfl
  · exact setAll_all (old := [.bool false]) (by rw [setAll_other n3, setAll_other n2]; exact HD') rfl
  · rw [setAll_size, setAll_size, setAll_size]; exact hsz
  · rw [(setAll_rest _ _ _).1, (setAll_rest _ _ _).1, (setAll_rest _ _ _).1]; exact hos
  · rw [(setAll_rest _ _ _).2.1, (setAll_rest _ _ _).2.1, (setAll_rest _ _ _).2.1]; exact hta
  · rw [(setAll_rest _ _ _).2.2, (setAll_rest _ _ _).2.2, (setAll_rest _ _ _).2.2]; exact hou
  · intro k hk k1 k2 k3
    rw [setAll_other k3, setAll_other k2, setAll_other k1]
    exact HB.out k hk
/-- an answer, its list nil -/
structure OutN where
  err : Int
  is : Bool
  n : Int
  w : Int
def OutN.cells (o : OutN) : Array Value := #[.int .i64 o.err, .bool o.is, .int .i64 o.n, .int .u64 o.w, .slice none 0 0]
/-- what a program is handed -/
def doV (gA gL : Nat) : Value := .func (.func 132) #[] #[.pointer (some ⟨gA, 0, none⟩), .pointer (some ⟨gL, 0, none⟩)]
/-- a log that came in -/
structure LogV (w : World) (A : Option Addr) (n c : Nat) (rs : List Res) : Prop where
  len : rs.length = n
  small : n ≤ 65536
  at_ : ∀ j r, rs[j]? = some r → ∃ a, A = some a ∧ ResAt w a j r
theorem LogV.ext {w w' : World} {A : Option Addr} {n c : Nat} {rs : List Res} (h : LogV w A n c rs) (hx : Ext w w') : LogV w' A n c rs :=
  ⟨h.len, h.small, fun j r hr => let ⟨a, ha, h1, h2, h3⟩ := h.at_ j r hr; ⟨a, ha, hx.cell h1, hx.cell h2, hx.cell h3⟩⟩
theorem LogV.start {w W : World} {A : Option Addr} {n c : Nat} {rs : List Res} (h : LogV w A n c rs) (hx : Ext w W) {gA gL : Nat} {fr : Nat × Nat} (h1 : W.heap[gA]? = some (.cells #[.int .i64 0] 3 (0, 0)))
    (h2 : W.heap[gL]? = some (.cells #[.slice A n c] 25 fr)) (hne : gA ≠ gL) (hA : w.heap.size ≤ gA) : DoAt w.heap.size W gA gL rs := by
  refine ⟨0, n, c, A, fr, by simpa using h1, h2, h.small, by rw [h.len]; omega, hne, fun j r hr => ?_⟩
  obtain ⟨a, ha, hr1⟩ := h.at_ j r hr
  have hl := lt_of_cell hr1.1
  rw [add_block] at hl
  exact ⟨a, ha, by omega, hl, by rw [Nat.zero_add]; exact ⟨hx.cell hr1.1, hx.cell hr1.2.1, hx.cell hr1.2.2⟩⟩
theorem five_boxes (w : World) (o0 o1 o2 o3 o4 : Obj) :
    Ext w (((((w.alloc o0).alloc o1).alloc o2).alloc o3).alloc o4) ∧ (((((w.alloc o0).alloc o1).alloc o2).alloc o3).alloc o4).heap.size = w.heap.size + 5 ∧
    (((((w.alloc o0).alloc o1).alloc o2).alloc o3).alloc o4).heap[w.heap.size]? = some o0 ∧ (((((w.alloc o0).alloc o1).alloc o2).alloc o3).alloc o4).heap[w.heap.size + 1]? = some o1 ∧
    (((((w.alloc o0).alloc o1).alloc o2).alloc o3).alloc o4).heap[w.heap.size + 1 + 1]? = some o2 ∧ (((((w.alloc o0).alloc o1).alloc o2).alloc o3).alloc o4).heap[w.heap.size + 1 + 1 + 1]? = some o3 ∧
    (((((w.alloc o0).alloc o1).alloc o2).alloc o3).alloc o4).heap[w.heap.size + 1 + 1 + 1 + 1]? = some o4 := by
  refine ⟨((((((Below.refl _ w).alloc (Nat.le_refl _) _).alloc (by simp) _).alloc (by simp; omega) _).alloc (by simp; omega) _).alloc (by simp; omega) _), by simp, ?_, ?_, ?_, ?_, ?_⟩
  · rw [Below.heap_alloc _ _ _ (by first | (simp; omega) | simp), Below.heap_alloc _ _ _ (by first | (simp; omega) | simp), Below.heap_alloc _ _ _ (by first | (simp; omega) | simp), Below.heap_alloc _ _ _ (by first | (simp; omega) | simp)]
    simpa using heap_alloc_new w o0
  · rw [Below.heap_alloc _ _ _ (by first | (simp; omega) | simp), Below.heap_alloc _ _ _ (by first | (simp; omega) | simp), Below.heap_alloc _ _ _ (by first | (simp; omega) | simp)]
    simpa using heap_alloc_new (w.alloc o0) o1
  · rw [Below.heap_alloc _ _ _ (by first | (simp; omega) | simp), Below.heap_alloc _ _ _ (by first | (simp; omega) | simp)]
    simpa using heap_alloc_new ((w.alloc o0).alloc o1) o2
  · rw [Below.heap_alloc _ _ _ (by first | (simp; omega) | simp)]
    simpa using heap_alloc_new (((w.alloc o0).alloc o1).alloc o2) o3
  · simpa using heap_alloc_new ((((w.alloc o0).alloc o1).alloc o2).alloc o3) o4
set_option maxRecDepth 100000 in
set_option maxHeartbeats 4000000 in
theorem run_done (fP : FuncId) (caps : Array Value) (A : Option Addr) (n c : Nat) (rs : List Res) (o : OutN) (w : World) (hlog : LogV w A n c rs)
    (hcall : ∀ (args : Array Value) (w : World), (callFunc fP args).run Try.prog w = .ok (.enter fP args) w)
    (hprog : ∀ (gA gL : Nat) (W : World), Ext w W → w.heap.size ≤ gA → gA < W.heap.size → DoAt w.heap.size W gA gL rs → Calls Try.prog fP (#[doV gA gL] ++ caps) W fun e W' => e = .returned (.agg o.cells) ∧ ExtB gA W W') :
    Calls Try.prog 102 #[.func (.func fP) #[] caps, .slice A n c] w fun e w' => e = .returned (.tuple #[.agg accZero, .agg o.cells, .bool true]) ∧ Ext w w' := by
  have hmf : ∀ (fn : Fn) (first cap : Array Value) (w : World), (Instr.makeFunc fn first cap).run Try.prog w = .ok (.func fn first cap) w := fun _ _ _ _ => rfl
  go_enter_defers Try.func102, Try.ntmps102
  go_upto_region 3 with (fail)
  obtain ⟨hW, hsz, hL, hE, hO, hD, hA⟩ := five_boxes w (.cells #[.slice A n c] 25) (.cells #[.int .i64 0, .int .i64 0, .int .u64 0, .int .u64 0, .slice none 0 0, .slice none 0 0] 33)
    (.cells #[.int .i64 0, .bool false, .int .i64 0, .int .u64 0, .slice none 0 0] 37) (.cells #[.bool false] 4) (.cells #[.int .i64 0] 3)
  generalize ((((w.alloc (.cells #[.slice A n c] 25)).alloc (.cells #[.int .i64 0, .int .i64 0, .int .u64 0, .int .u64 0, .slice none 0 0, .slice none 0 0] 33)).alloc
    (.cells #[.int .i64 0, .bool false, .int .i64 0, .int .u64 0, .slice none 0 0] 37)).alloc (.cells #[.bool false] 4)).alloc (.cells #[.int .i64 0] 3) = W at *
  have hdo := hlog.start hW hA hL (by omega) (by omega)
  have hcl := hprog _ _ W hW (by omega) (by omega) hdo
  go_wp2_with fail
  refine hcl.mono ?_
  rintro e w2 ⟨rfl, hB⟩
  have hE2 := hB.heap hE (by omega)
  have hO2 := hB.heap hO (by omega)
  have hD2 := hB.heap hD (by omega)
  have hx2 := hB.ext hW (by omega)
  have hs2 : w.heap.size + 5 ≤ w2.heap.size := by have := hB.size; omega
  clear hcl hdo hprog hE hO hD hL hA hW hB hsz
  obtain ⟨oe, ois, on, ow⟩ := o
  simp only [OutN.cells]
  have q0 : w2.cell? ⟨w.heap.size + 1 + 1, 0, none⟩ = some (.int .i64 0) := by simp [World.cell?, hO2]
  have q1 : w2.cell? ⟨w.heap.size + 1 + 1, 1, none⟩ = some (.bool false) := by simp [World.cell?, hO2]
  have q2 : w2.cell? ⟨w.heap.size + 1 + 1, 2, none⟩ = some (.int .i64 0) := by simp [World.cell?, hO2]
  have q3 : w2.cell? ⟨w.heap.size + 1 + 1, 3, none⟩ = some (.int .u64 0) := by simp [World.cell?, hO2]
  have q4 : w2.cell? ⟨w.heap.size + 1 + 1, 4, none⟩ = some (.slice none 0 0) := by simp [World.cell?, hO2]
  have f0 : w2.frozen? ⟨w.heap.size + 1 + 1, 0, none⟩ = false := by simp [World.frozen?, hO2]
  have f1 : w2.frozen? ⟨w.heap.size + 1 + 1, 1, none⟩ = false := by simp [World.frozen?, hO2]
  have f2 : w2.frozen? ⟨w.heap.size + 1 + 1, 2, none⟩ = false := by simp [World.frozen?, hO2]
  have f3 : w2.frozen? ⟨w.heap.size + 1 + 1, 3, none⟩ = false := by simp [World.frozen?, hO2]
  have f4 : w2.frozen? ⟨w.heap.size + 1 + 1, 4, none⟩ = false := by simp [World.frozen?, hO2]
  go_upto_region 4 with (fail)
  have hW3 : ((((w2.setCell ⟨w.heap.size + 1 + 1, 0, none⟩ (.int .i64 oe)).setCell ⟨w.heap.size + 1 + 1, 1, none⟩ (.bool ois)).setCell ⟨w.heap.size + 1 + 1, 2, none⟩ (.int .i64 on)).setCell ⟨w.heap.size + 1 + 1, 3, none⟩ (.int .u64 ow)).setCell ⟨w.heap.size + 1 + 1, 4, none⟩ (.slice none 0 0) =
      setAll (w.heap.size + 1 + 1) 0 [.int .i64 oe, .bool ois, .int .i64 on, .int .u64 ow, .slice none 0 0] w2 := rfl
  rw [hW3]
  have hO3 := setAll_all (vs := [.int .i64 oe, .bool ois, .int .i64 on, .int .u64 ow, .slice none 0 0]) (old := [.int .i64 0, .bool false, .int .i64 0, .int .u64 0, .slice none 0 0]) hO2 rfl
  have hE3 : (setAll (w.heap.size + 1 + 1) 0 [.int .i64 oe, .bool ois, .int .i64 on, .int .u64 ow, .slice none 0 0] w2).heap[w.heap.size + 1]? = _ := (setAll_other (by omega) _ _ _).trans hE2
  have hD3 : (setAll (w.heap.size + 1 + 1) 0 [.int .i64 oe, .bool ois, .int .i64 on, .int .u64 ow, .slice none 0 0] w2).heap[w.heap.size + 1 + 1 + 1]? = _ := (setAll_other (by omega) _ _ _).trans hD2
  have hx3 : Ext w (setAll (w.heap.size + 1 + 1) 0 [.int .i64 oe, .bool ois, .int .i64 on, .int .u64 ow, .slice none 0 0] w2) := setAll_ext hx2 (by omega)
  clear hW3 q0 q1 q2 q3 q4 f0 f1 f2 f3 f4 hO2 hE2 hD2 hx2
  generalize setAll (w.heap.size + 1 + 1) 0 [.int .i64 oe, .bool ois, .int .i64 on, .int .u64 ow, .slice none 0 0] w2 = W3 at *
  have c0 : W3.cell? ⟨w.heap.size + 1, 0, none⟩ = some (.int .i64 0) := by simp [World.cell?, hE3]
  have f0 : W3.frozen? ⟨w.heap.size + 1, 0, none⟩ = false := by simp [World.frozen?, hE3]
  have c1 : W3.cell? ⟨w.heap.size + 1, 1, none⟩ = some (.int .i64 0) := by simp [World.cell?, hE3]
  have f1 : W3.frozen? ⟨w.heap.size + 1, 1, none⟩ = false := by simp [World.frozen?, hE3]
  have c2 : W3.cell? ⟨w.heap.size + 1, 2, none⟩ = some (.int .u64 0) := by simp [World.cell?, hE3]
  have f2 : W3.frozen? ⟨w.heap.size + 1, 2, none⟩ = false := by simp [World.frozen?, hE3]
  have c3 : W3.cell? ⟨w.heap.size + 1, 3, none⟩ = some (.int .u64 0) := by simp [World.cell?, hE3]
  have f3 : W3.frozen? ⟨w.heap.size + 1, 3, none⟩ = false := by simp [World.frozen?, hE3]
  have c4 : W3.cell? ⟨w.heap.size + 1, 4, none⟩ = some (.slice none 0 0) := by simp [World.cell?, hE3]
  have f4 : W3.frozen? ⟨w.heap.size + 1, 4, none⟩ = false := by simp [World.frozen?, hE3]
  have c5 : W3.cell? ⟨w.heap.size + 1, 5, none⟩ = some (.slice none 0 0) := by simp [World.cell?, hE3]
  have f5 : W3.frozen? ⟨w.heap.size + 1, 5, none⟩ = false := by simp [World.frozen?, hE3]
  have d0 : W3.cell? ⟨w.heap.size + 1 + 1, 0, none⟩ = some (.int .i64 oe) := by simp [World.cell?, hO3]
  have g0 : W3.frozen? ⟨w.heap.size + 1 + 1, 0, none⟩ = false := by simp [World.frozen?, hO3]
  have d1 : W3.cell? ⟨w.heap.size + 1 + 1, 1, none⟩ = some (.bool ois) := by simp [World.cell?, hO3]
  have g1 : W3.frozen? ⟨w.heap.size + 1 + 1, 1, none⟩ = false := by simp [World.frozen?, hO3]
  have d2 : W3.cell? ⟨w.heap.size + 1 + 1, 2, none⟩ = some (.int .i64 on) := by simp [World.cell?, hO3]
  have g2 : W3.frozen? ⟨w.heap.size + 1 + 1, 2, none⟩ = false := by simp [World.frozen?, hO3]
  have d3 : W3.cell? ⟨w.heap.size + 1 + 1, 3, none⟩ = some (.int .u64 ow) := by simp [World.cell?, hO3]
  have g3 : W3.frozen? ⟨w.heap.size + 1 + 1, 3, none⟩ = false := by simp [World.frozen?, hO3]
  have d4 : W3.cell? ⟨w.heap.size + 1 + 1, 4, none⟩ = some (.slice none 0 0) := by simp [World.cell?, hO3]
  have g4 : W3.frozen? ⟨w.heap.size + 1 + 1, 4, none⟩ = false := by simp [World.frozen?, hO3]
  have e0 : W3.cell? ⟨w.heap.size + 1 + 1 + 1, 0, none⟩ = some (.bool false) := by simp [World.cell?, hD3]
  have h0 : W3.frozen? ⟨w.heap.size + 1 + 1 + 1, 0, none⟩ = false := by simp [World.frozen?, hD3]
  have HE := Lib.hid hE3
  have HO := Lib.hid hO3
  have HD := Lib.hid hD3
  clear hE3 hO3 hD3
  go_region
  all_goals
    go_wp2
    have hbig : ((((((((((((W3.setCell ⟨w.heap.size + 1, 0, none⟩ (.int .i64 0)).setCell ⟨w.heap.size + 1, 1, none⟩ (.int .i64 0)).setCell ⟨w.heap.size + 1, 2, none⟩ (.int .u64 0)).setCell ⟨w.heap.size + 1, 3, none⟩ (.int .u64 0)).setCell ⟨w.heap.size + 1, 4, none⟩ (.slice none 0 0)).setCell ⟨w.heap.size + 1, 5, none⟩ (.slice none 0 0)).setCell ⟨w.heap.size + 1 + 1, 0, none⟩ (.int .i64 oe)).setCell ⟨w.heap.size + 1 + 1, 1, none⟩ (.bool ois)).setCell ⟨w.heap.size + 1 + 1, 2, none⟩ (.int .i64 on)).setCell ⟨w.heap.size + 1 + 1, 3, none⟩ (.int .u64 ow)).setCell ⟨w.heap.size + 1 + 1, 4, none⟩ (.slice none 0 0)).setCell ⟨w.heap.size + 1 + 1 + 1, 0, none⟩ (.bool true)) = setAll (w.heap.size + 1 + 1 + 1) 0 [.bool true] (setAll (w.heap.size + 1 + 1) 0 [.int .i64 oe, .bool ois, .int .i64 on, .int .u64 ow, .slice none 0 0] (setAll (w.heap.size + 1) 0 [.int .i64 0, .int .i64 0, .int .u64 0, .int .u64 0, .slice none 0 0, .slice none 0 0] W3)) := rfl
    rw [hbig]
    clear hbig
    have hx4 : Ext w (setAll (w.heap.size + 1 + 1 + 1) 0 [.bool true] (setAll (w.heap.size + 1 + 1) 0 [.int .i64 oe, .bool ois, .int .i64 on, .int .u64 ow, .slice none 0 0] (setAll (w.heap.size + 1) 0 [.int .i64 0, .int .i64 0, .int .u64 0, .int .u64 0, .slice none 0 0, .slice none 0 0] W3))) := setAll_ext (setAll_ext (setAll_ext hx3 (by omega)) (by omega)) (by omega)
    have hE4 : (setAll (w.heap.size + 1 + 1 + 1) 0 [.bool true] (setAll (w.heap.size + 1 + 1) 0 [.int .i64 oe, .bool ois, .int .i64 on, .int .u64 ow, .slice none 0 0] (setAll (w.heap.size + 1) 0 [.int .i64 0, .int .i64 0, .int .u64 0, .int .u64 0, .slice none 0 0, .slice none 0 0] W3))).heap[w.heap.size + 1]? = some (.cells (List.toArray [.int .i64 0, .int .i64 0, .int .u64 0, .int .u64 0, .slice none 0 0, .slice none 0 0]) 33 (0, 0)) := by
      rw [setAll_other (by omega), setAll_other (by omega)]; exact setAll_all (old := [.int .i64 0, .int .i64 0, .int .u64 0, .int .u64 0, .slice none 0 0, .slice none 0 0]) HE.out rfl
    have hO4 : (setAll (w.heap.size + 1 + 1 + 1) 0 [.bool true] (setAll (w.heap.size + 1 + 1) 0 [.int .i64 oe, .bool ois, .int .i64 on, .int .u64 ow, .slice none 0 0] (setAll (w.heap.size + 1) 0 [.int .i64 0, .int .i64 0, .int .u64 0, .int .u64 0, .slice none 0 0, .slice none 0 0] W3))).heap[w.heap.size + 1 + 1]? = some (.cells (List.toArray [.int .i64 oe, .bool ois, .int .i64 on, .int .u64 ow, .slice none 0 0]) 37 (0, 0)) := by
      rw [setAll_other (by omega)]; exact setAll_all (old := [.int .i64 oe, .bool ois, .int .i64 on, .int .u64 ow, .slice none 0 0]) (by rw [setAll_other (by omega)]; exact HO.out) rfl
    have hD4 : (setAll (w.heap.size + 1 + 1 + 1) 0 [.bool true] (setAll (w.heap.size + 1 + 1) 0 [.int .i64 oe, .bool ois, .int .i64 on, .int .u64 ow, .slice none 0 0] (setAll (w.heap.size + 1) 0 [.int .i64 0, .int .i64 0, .int .u64 0, .int .u64 0, .slice none 0 0, .slice none 0 0] W3))).heap[w.heap.size + 1 + 1 + 1]? = some (.cells (List.toArray [.bool true]) 4 (0, 0)) :=
      setAll_all (old := [.bool false]) (by rw [setAll_other (by omega), setAll_other (by omega)]; exact HD.out) rfl
    clear c0 c1 c2 c3 c4 c5 f0 f1 f2 f3 f4 f5 d0 d1 d2 d3 d4 g0 g1 g2 g3 g4 e0 h0
    generalize setAll (w.heap.size + 1 + 1 + 1) 0 [.bool true] (setAll (w.heap.size + 1 + 1) 0 [.int .i64 oe, .bool ois, .int .i64 on, .int .u64 ow, .slice none 0 0] (setAll (w.heap.size + 1) 0 [.int .i64 0, .int .i64 0, .int .u64 0, .int .u64 0, .slice none 0 0, .slice none 0 0] W3)) = W4 at *
    refine leaves_cons (f := 131) (args := #[.pointer (some ⟨w.heap.size + 1, 0, none⟩), .pointer (some ⟨w.heap.size + 1 + 1, 0, none⟩), .pointer (some ⟨w.heap.size + 1 + 1 + 1, 0, none⟩)]) (by simp) (by simp [go_sem]) ?_
    refine (catch_idle _ _ _ _).mono ?_
    rintro e u' w5 ⟨rfl, rfl, hx5⟩
    replace hx5 := hx5.drawn
    have hE5 := heap_ext hE4 hx5
    have hO5 := heap_ext hO4 hx5
    have hD5 := heap_ext hD4 hx5
    have hx6 := hx4.trans hx5
    clear hE4 hO4 hD4 hx4 hx5
    have c0 : w5.cell? ⟨w.heap.size + 1, 0, none⟩ = some (.int .i64 0) := by simp [World.cell?, hE5]
    have c1 : w5.cell? ⟨w.heap.size + 1, 1, none⟩ = some (.int .i64 0) := by simp [World.cell?, hE5]
    have c2 : w5.cell? ⟨w.heap.size + 1, 2, none⟩ = some (.int .u64 0) := by simp [World.cell?, hE5]
    have c3 : w5.cell? ⟨w.heap.size + 1, 3, none⟩ = some (.int .u64 0) := by simp [World.cell?, hE5]
    have c4 : w5.cell? ⟨w.heap.size + 1, 4, none⟩ = some (.slice none 0 0) := by simp [World.cell?, hE5]
    have c5 : w5.cell? ⟨w.heap.size + 1, 5, none⟩ = some (.slice none 0 0) := by simp [World.cell?, hE5]
    have d0 : w5.cell? ⟨w.heap.size + 1 + 1, 0, none⟩ = some (.int .i64 oe) := by simp [World.cell?, hO5]
    have d1 : w5.cell? ⟨w.heap.size + 1 + 1, 1, none⟩ = some (.bool ois) := by simp [World.cell?, hO5]
    have d2 : w5.cell? ⟨w.heap.size + 1 + 1, 2, none⟩ = some (.int .i64 on) := by simp [World.cell?, hO5]
    have d3 : w5.cell? ⟨w.heap.size + 1 + 1, 3, none⟩ = some (.int .u64 ow) := by simp [World.cell?, hO5]
    have d4 : w5.cell? ⟨w.heap.size + 1 + 1, 4, none⟩ = some (.slice none 0 0) := by simp [World.cell?, hO5]
    have e0 : w5.cell? ⟨w.heap.size + 1 + 1 + 1, 0, none⟩ = some (.bool true) := by simp [World.cell?, hD5]
    refine ⟨.tuple #[.agg accZero, .agg #[.int .i64 oe, .bool ois, .int .i64 on, .int .u64 ow, .slice none 0 0], .bool true], ?_, rfl, hx6⟩
    simp [results, Try.results102, go_sem, c0, c1, c2, c3, c4, c5, d0, d1, d2, d3, d4, e0, accZero]
set_option maxRecDepth 100000 in
set_option maxHeartbeats 4000000 in
theorem run_stop (fP : FuncId) (caps : Array Value) (A : Option Addr) (n c : Nat) (rs : List Res) (x : Acc) (w : World) (hlog : LogV w A n c rs)
    (hcall : ∀ (args : Array Value) (w : World), (callFunc fP args).run Try.prog w = .ok (.enter fP args) w)
    (hprog : ∀ (gA gL : Nat) (W : World), Ext w W → w.heap.size ≤ gA → gA < W.heap.size → DoAt w.heap.size W gA gL rs → Calls Try.prog fP (#[doV gA gL] ++ caps) W fun e W' => e = needP x.cells ∧ ExtB gA W W') :
    Calls Try.prog 102 #[.func (.func fP) #[] caps, .slice A n c] w fun e w' => e = .returned (.tuple #[.agg x.cells, .agg outZero, .bool false]) ∧ Ext w w' := by
  have hmf : ∀ (fn : Fn) (first cap : Array Value) (w : World), (Instr.makeFunc fn first cap).run Try.prog w = .ok (.func fn first cap) w := fun _ _ _ _ => rfl
  go_enter_defers Try.func102, Try.ntmps102
  go_upto_region 3 with (fail)
  obtain ⟨hW, hsz, hL, hE, hO, hD, hA⟩ := five_boxes w (.cells #[.slice A n c] 25) (.cells #[.int .i64 0, .int .i64 0, .int .u64 0, .int .u64 0, .slice none 0 0, .slice none 0 0] 33)
    (.cells #[.int .i64 0, .bool false, .int .i64 0, .int .u64 0, .slice none 0 0] 37) (.cells #[.bool false] 4) (.cells #[.int .i64 0] 3)
  generalize ((((w.alloc (.cells #[.slice A n c] 25)).alloc (.cells #[.int .i64 0, .int .i64 0, .int .u64 0, .int .u64 0, .slice none 0 0, .slice none 0 0] 33)).alloc
    (.cells #[.int .i64 0, .bool false, .int .i64 0, .int .u64 0, .slice none 0 0] 37)).alloc (.cells #[.bool false] 4)).alloc (.cells #[.int .i64 0] 3) = W at *
  have hdo := hlog.start hW hA hL (by omega) (by omega)
  have hcl := hprog _ _ W hW (by omega) (by omega) hdo
  go_wp2_with fail
  refine hcl.mono ?_
  rintro e w2 ⟨rfl, hB⟩
  have hE2 := hB.heap hE (by omega)
  have hO2 := hB.heap hO (by omega)
  have hD2 := hB.heap hD (by omega)
  have hx2 := hB.ext hW (by omega)
  have hs2 : w.heap.size + 5 ≤ w2.heap.size := by have := hB.size; omega
  clear hcl hdo hprog hE hO hD hL hA hW hB hsz
  refine leaves_cons (f := 131) (args := #[.pointer (some ⟨w.heap.size + 1, 0, none⟩), .pointer (some ⟨w.heap.size + 1 + 1, 0, none⟩), .pointer (some ⟨w.heap.size + 1 + 1 + 1, 0, none⟩)]) (by simp) (by simp [go_sem]) ?_
  refine (catch_stop x _ _ _ w2 (by omega) (by omega) (by omega) hE2 hO2 hD2).mono ?_
  rintro e u' w5 ⟨rfl, rfl, hC⟩
  have hx6 : Ext w w5 := ⟨hC.os.trans hx2.os, hC.tape.trans hx2.tape, hC.output.trans hx2.output, Nat.le_trans hx2.size hC.size, fun k hk => by
    rw [hC.block k (by omega) (by omega) (by omega) (by omega)]; exact hx2.block k hk⟩
  have hE5 := hC.E
  have hO5 := hC.O
  have hD5 := hC.D
  clear hC hx2 hE2 hO2 hD2
  obtain ⟨x0, x1, x2, x3, x4, x5, x6, x7, x8, x9⟩ := x
  simp only [Acc.cells, outZero] at hE5 hO5
  have c0 : w5.cell? ⟨w.heap.size + 1, 0, none⟩ = some (.int .i64 x0) := by simp [World.cell?, hE5]
  have c1 : w5.cell? ⟨w.heap.size + 1, 1, none⟩ = some (.int .i64 x1) := by simp [World.cell?, hE5]
  have c2 : w5.cell? ⟨w.heap.size + 1, 2, none⟩ = some (.int .u64 x2) := by simp [World.cell?, hE5]
  have c3 : w5.cell? ⟨w.heap.size + 1, 3, none⟩ = some (.int .u64 x3) := by simp [World.cell?, hE5]
  have c4 : w5.cell? ⟨w.heap.size + 1, 4, none⟩ = some (.slice x4 x5 x6) := by simp [World.cell?, hE5]
  have c5 : w5.cell? ⟨w.heap.size + 1, 5, none⟩ = some (.slice x7 x8 x9) := by simp [World.cell?, hE5]
  have d0 : w5.cell? ⟨w.heap.size + 1 + 1, 0, none⟩ = some (.int .i64 0) := by simp [World.cell?, hO5]
  have d1 : w5.cell? ⟨w.heap.size + 1 + 1, 1, none⟩ = some (.bool false) := by simp [World.cell?, hO5]
  have d2 : w5.cell? ⟨w.heap.size + 1 + 1, 2, none⟩ = some (.int .i64 0) := by simp [World.cell?, hO5]
  have d3 : w5.cell? ⟨w.heap.size + 1 + 1, 3, none⟩ = some (.int .u64 0) := by simp [World.cell?, hO5]
  have d4 : w5.cell? ⟨w.heap.size + 1 + 1, 4, none⟩ = some (.slice none 0 0) := by simp [World.cell?, hO5]
  have e0 : w5.cell? ⟨w.heap.size + 1 + 1 + 1, 0, none⟩ = some (.bool false) := by simp [World.cell?, hD5]
  refine ⟨.tuple #[.agg #[.int .i64 x0, .int .i64 x1, .int .u64 x2, .int .u64 x3, .slice x4 x5 x6, .slice x7 x8 x9], .agg outZero, .bool false], ?_, rfl, hx6⟩
  simp [results, Try.results102, go_sem, c0, c1, c2, c3, c4, c5, d0, d1, d2, d3, d4, e0, outZero]
end Go.Proofs.Ytkdjmfaodojmfaa

namespace Go.Proofs.Ytkdjmfaodojmfaa
open Go.RowKit

/-! play.Line. -/
/-- a row of accesses that came in -/
structure AccsV (w : World) (A : Option Addr) (n c : Nat) (l : List Acc) : Prop where
 len : l.length = n
 at_ : ∀ j x, l[j]? = some x → ∃ a, A = some a ∧ ∀ k v, x.cells[k]? = some v → w.cell? ((a.add (j * 6)).add k) = some v
theorem AccsV.ext {w w' : World} {A : Option Addr} {n c : Nat} {l : List Acc} (h : AccsV w A n c l) (hx : Ext w w') : AccsV w' A n c l :=
 ⟨h.len, fun j x hj => let ⟨a, ha, hc⟩ := h.at_ j x hj; ⟨a, ha, fun k v hk => hx.cell (hc k v hk)⟩⟩
/-- the sum of what is told -/
def sumN : List Res → Int
 | [] => 0
 | r :: rs => r.n + sumN rs
def lineSum (rs : List Res) (j : Nat) : Int := IntKind.u64.wrap (sumN (rs.take j))
theorem sumN_append : ∀ a b : List Res, sumN (a ++ b) = sumN a + sumN b
 | [], b => by simp [sumN]
 | x :: a, b => by simp [sumN, sumN_append a b, Int.add_assoc]
theorem lineSum_step {rs R : List Res} {r : Res} {j : Nat} (h : rs.drop j = r :: R) : IntKind.u64.wrap (lineSum rs j + r.n) = lineSum rs (j + 1) := by
 have hj : rs[j]? = some r := by
  have := congrArg (fun l : List Res => l[0]?) h
  simpa using this
 have ht : rs.take (j + 1) = rs.take j ++ [r] := by
  rw [List.take_add_one, hj]; rfl
 simp only [lineSum, ht, sumN_append, IntKind.wrap_u64, sumN]
 omega
theorem drop_step {rs R : List Res} {r : Res} {j : Nat} (h : rs.drop j = r :: R) : rs.drop (j + 1) = R ∧ j < rs.length := by
 have h1 : (rs.drop j).drop 1 = R := by rw [h]; rfl
 refine ⟨by rw [← h1, List.drop_drop], ?_⟩
 rcases Nat.lt_or_ge j rs.length with h2 | h2
 ·exact h2
 ·rw [List.drop_of_length_le h2] at h; cases h
theorem extB_of_S {gA gO : Nat} {w W w' : World} (h : ExtB gA w W) (hx : SB.ExtS [gA, gO] W.drew w') (hO : w.heap.size ≤ gO) : ExtB gA w w' :=
 ⟨hx.os.trans h.os, hx.tape.trans h.tape, hx.output.trans h.output, Nat.le_trans h.size hx.size, fun k hk hn => by
  rw [← h.block k hk hn]
  refine hx.block k (Nat.lt_of_lt_of_le hk h.size) ?_
  simp only [List.mem_cons, List.not_mem_nil, or_false, not_or]
  exact ⟨hn, by omega⟩⟩
theorem ExtB.trans_set {gA gO : Nat} {w w' : World} (h : ExtB gA w w') (hO : w.heap.size ≤ gO) {i : Nat} {u : Value} : ExtB gA w (w'.setCell ⟨gO, i, none⟩ u) :=
 ⟨h.os, h.tape, h.output, by simpa [World.setCell] using h.size, fun k hk hn => by
  rw [Below.heap_setCell _ _ _ _ (by simp; omega)]; exact h.block k hk hn⟩
set_option maxRecDepth 100000 in
set_option maxHeartbeats 4000000 in
theorem line_prog (A : Option Addr) (n c : Nat) (l : List Acc) (gA gL gl m : Nat) (fr : Nat × Nat) (rs : List Res) (w : World) (hl : AccsV w A n c l) (hsep : ∀ a, A = some a → 0 < n → a.block ≠ gA) (hgl : w.heap[gl]? = some (.cells #[.slice A n c] 79 fr)) (hne : gl ≠ gA) (hn : n ≤ 65536)
  (hdo : DoAt m w gA gL rs) (hm : m ≤ w.heap.size) :
  Calls Try.prog 116 #[doV gA gL, .pointer (some ⟨gl, 0, none⟩)] w fun e w' => (if n ≤ rs.length then e = .returned (.agg (OutN.cells ⟨0, false, n, lineSum rs n⟩)) else ∃ x, l[rs.length]? = some x ∧ e = needP x.cells) ∧ ExtB gA w w' := by
 have hW : Ext w ((w.alloc (.cells outZero 37)).alloc (.cells outZero 37)) := ((Below.refl _ w).alloc (Nat.le_refl _) _).alloc (by simp) _
 have h3 : ((w.alloc (.cells outZero 37)).alloc (.cells outZero 37)).heap[w.heap.size]? = some (.cells outZero 37 (0, 0)) := by
  rw [Below.heap_alloc _ _ _ (by simp)]; exact heap_alloc_new w _
 have h4 : ((w.alloc (.cells outZero 37)).alloc (.cells outZero 37)).heap[w.heap.size + 1]? = some (.cells outZero 37 (0, 0)) := by
  simpa using heap_alloc_new (w.alloc (.cells outZero 37)) (.cells outZero 37)
 have cl : w.cell? ⟨gl, 0, none⟩ = some (.slice A n c) := by simp [World.cell?, hgl]
 obtain ⟨hgA, hgL⟩ := hdo.sizes
 simp only [doV]
 go_enter Try.func116, Try.ntmps116
 go_upto_region 2 with (fail)
 change Code.wp _ _ _ _ ((w.alloc (.cells outZero 37)).alloc (.cells outZero 37))
 have cl2 := hW.cell cl
 replace hdo := hdo.ext hW
 have hsz := hW.size
 generalize ((w.alloc (.cells outZero 37)).alloc (.cells outZero 37)) = W at *
 go_upto_region 3 with (fail)
 go_loopw [9] (fun i wr => ∃ j : Nat, j ≤ n ∧ j ≤ rs.length ∧ i = .int .i64 j ∧ DoAt m wr gA gL (rs.drop j) ∧ wr.heap[w.heap.size + 1]? = some (.cells #[.int .i64 0, .bool false, .int .i64 j, .int .u64 (lineSum rs j), .slice none 0 0] 37 (0, 0)) ∧ wr.heap[w.heap.size]? = some (.cells outZero 37 (0, 0)) ∧ ExtB gA w wr) (fun i _ => n - (intOf i).toNat)
 case atStart => exact ⟨0, Nat.zero_le _, Nat.zero_le _, rfl, hdo, h4, h3, ExtB.of hW⟩
 case round =>
  obtain ⟨j, hj, hjr, rfl, hD, hg4, hg3, hB⟩ := hrel
  rcases Nat.lt_or_ge j n with hjn | hjn
  ·obtain ⟨a, rfl, hx⟩ := hl.at_ j (l[j]'(by rw [hl.len]; exact hjn)) (List.getElem?_eq_getElem _)
   have hab := hsep a rfl (by omega)
   have hlx : l[j]? = some (l[j]'(by rw [hl.len]; exact hjn)) := List.getElem?_eq_getElem _
   generalize (l[j]'(by rw [hl.len]; exact hjn)) = x at *
   obtain ⟨x0, x1, x2, x3, x4, x5, x6, x7, x8, x9⟩ := x
   have y0 := hB.cell (hx 0 (.int .i64 x0) rfl) (by rw [add_block, add_block]; exact hab)
   rw [show ((a.add (j * 6)).add 0) = a.add (j * 6) from rfl] at y0
   have y1 := hB.cell (hx 1 (.int .i64 x1) rfl) (by rw [add_block, add_block]; exact hab)
   rw [show ((a.add (j * 6)).add 1) = ⟨(a.add (j * 6)).block, (a.add (j * 6)).off + 1, none⟩ from rfl] at y1
   have y2 := hB.cell (hx 2 (.int .u64 x2) rfl) (by rw [add_block, add_block]; exact hab)
   rw [show ((a.add (j * 6)).add 2) = ⟨(a.add (j * 6)).block, (a.add (j * 6)).off + 2, none⟩ from rfl] at y2
   have y3 := hB.cell (hx 3 (.int .u64 x3) rfl) (by rw [add_block, add_block]; exact hab)
   rw [show ((a.add (j * 6)).add 3) = ⟨(a.add (j * 6)).block, (a.add (j * 6)).off + 3, none⟩ from rfl] at y3
   have y4 := hB.cell (hx 4 (.slice x4 x5 x6) rfl) (by rw [add_block, add_block]; exact hab)
   rw [show ((a.add (j * 6)).add 4) = ⟨(a.add (j * 6)).block, (a.add (j * 6)).off + 4, none⟩ from rfl] at y4
   have y5 := hB.cell (hx 5 (.slice x7 x8 x9) rfl) (by rw [add_block, add_block]; exact hab)
   rw [show ((a.add (j * 6)).add 5) = ⟨(a.add (j * 6)).block, (a.add (j * 6)).off + 5, none⟩ from rfl] at y5
   go_upto_region 5 with (fail)
   have hW5 : Ext wr (wr.alloc (.cells #[.int .i64 x0, .int .i64 x1, .int .u64 x2, .int .u64 x3, .slice x4 x5 x6, .slice x7 x8 x9] 33)) := (Below.refl _ wr).alloc (Nat.le_refl _) _
   have h6 : (wr.alloc (.cells #[.int .i64 x0, .int .i64 x1, .int .u64 x2, .int .u64 x3, .slice x4 x5 x6, .slice x7 x8 x9] 33)).heap[wr.heap.size]? = some (.cells #[.int .i64 x0, .int .i64 x1, .int .u64 x2, .int .u64 x3, .slice x4 x5 x6, .slice x7 x8 x9] 33 (0, 0)) := heap_alloc_new wr _
   have hD5 := hD.ext hW5
   have hg5 := heap_ext hg4 hW5
   have hg6 := heap_ext hg3 hW5
   have hB5 := hB.trans (ExtB.of hW5)
   have hs4 : w.heap.size + 1 < wr.heap.size := (Array.getElem?_eq_some_iff.1 hg4).1
   generalize (wr.alloc (.cells #[.int .i64 x0, .int .i64 x1, .int .u64 x2, .int .u64 x3, .slice x4 x5 x6, .slice x7 x8 x9] 33)) = W5 at *
   have b0 : W5.cell? ⟨wr.heap.size, 0, none⟩ = some (.int .i64 x0) := by simp [World.cell?, h6]
   have b1 : W5.cell? ⟨wr.heap.size, 1, none⟩ = some (.int .i64 x1) := by simp [World.cell?, h6]
   have b2 : W5.cell? ⟨wr.heap.size, 2, none⟩ = some (.int .u64 x2) := by simp [World.cell?, h6]
   have b3 : W5.cell? ⟨wr.heap.size, 3, none⟩ = some (.int .u64 x3) := by simp [World.cell?, h6]
   have b4 : W5.cell? ⟨wr.heap.size, 4, none⟩ = some (.slice x4 x5 x6) := by simp [World.cell?, h6]
   have b5 : W5.cell? ⟨wr.heap.size, 5, none⟩ = some (.slice x7 x8 x9) := by simp [World.cell?, h6]
   have z2 : W5.cell? ⟨w.heap.size + 1, 2, none⟩ = some (.int .i64 j) := by simp [World.cell?, hg5]
   have z3 : W5.cell? ⟨w.heap.size + 1, 3, none⟩ = some (.int .u64 (lineSum rs j)) := by simp [World.cell?, hg5]
   generalize wr.heap.size = g6 at *
   have ng : w.heap.size + 1 ≠ gA := by omega
   have ngL : gL ≠ w.heap.size + 1 := by omega
   have nm : m ≤ w.heap.size + 1 := by omega
   clear y0 y1 y2 y3 y4 y5 hx hD hB hW5 h6 hdo cl2 hW h3 h4 cl hgl hg3 hg4
   have HB5 := Lib.hid hB5
   have HG5 := Lib.hid hg5
   have HG6 := Lib.hid hg6
   clear hB5 hg5 hg6
   have hwj : IntKind.i64.wrap ((j : Int) + 1) = (j : Int) + 1 := by rw [IntKind.wrap_i64]; omega
   generalize hR : rs.drop j = R at *
   generalize hgO : w.heap.size + 1 = gO at *
   have hX2 : ∀ bs wx, SB.ExtS bs W5.drew wx → gO ∉ bs → wx.cell? ⟨gO, 2, none⟩ = some (.int .i64 j) := fun bs wx hx hb => hx.cell z2 hb
   have hX3 : ∀ bs wx, SB.ExtS bs W5.drew wx → gO ∉ bs → wx.cell? ⟨gO, 3, none⟩ = some (.int .u64 (lineSum rs j)) := fun bs wx hx hb => hx.cell z3 hb
   have hX6 : ∀ wx, SB.ExtS [] W5.drew wx → wx.cell? ⟨g6, 0, none⟩ = some (.int .i64 x0) ∧ wx.cell? ⟨g6, 1, none⟩ = some (.int .i64 x1) ∧ wx.cell? ⟨g6, 2, none⟩ = some (.int .u64 x2) ∧ wx.cell? ⟨g6, 3, none⟩ = some (.int .u64 x3) ∧ wx.cell? ⟨g6, 4, none⟩ = some (.slice x4 x5 x6) ∧ wx.cell? ⟨g6, 5, none⟩ = some (.slice x7 x8 x9) := fun wx hx =>
    ⟨hx.cell b0 (by simp), hx.cell b1 (by simp), hx.cell b2 (by simp), hx.cell b3 (by simp), hx.cell b4 (by simp), hx.cell b5 (by simp)⟩
   clear z2 z3 b0 b1 b2 b3 b4 b5
   cases R with
   | nil =>
    refine' SB.wp_region_sure (gx := [(7, gA), (11, gO)]) (Pn := fun chain wx => Ending.panicked chain = needP #[.int .i64 x0, .int .i64 x1, .int .u64 x2, .int .u64 x3, .slice x4 x5 x6, .slice x7 x8 x9] ∧ Ext W5 wx) ⟨((some 13, [], none) :: (some 14, [0], none) :: (some 15, [1], none) :: (some 16, [], none) :: (some 17, [3], none) :: (some 18, [], none) :: (some 19, [], none) :: (some 20, [5, 6], none) :: (some 21, [7], none) :: (some 22, [4, 8], none) :: (some 23, [0, 1, 2, 3, 4], none) :: (none, [10, 2, 7, 0, 1, 2, 3, 4], none) :: (some 24, [0, 1, 2, 3, 4, 5, 6, 7, 8, 9, 10, 11], none) :: (none, [12, 9, 11, 0, 1, 2, 3, 4, 5, 6, 7, 8, 9, 10, 11], none) :: []), (0 :: 1 :: 3 :: 0 :: 8 :: 0 :: 0 :: 96 :: 224 :: 504 :: 31 :: 1279 :: 4095 :: 8191 :: []), (none :: none :: none :: none :: none :: none :: none :: none :: none :: none :: none :: none :: []), [7, 11]⟩ 12 27 ((0, 13) :: (1, 14) :: (2, 15) :: (3, 16) :: (4, 17) :: (5, 18) :: (6, 19) :: (7, 20) :: (8, 21) :: (9, 22) :: (10, 23) :: []) ((0, 13) :: (1, 14) :: (2, 15) :: (3, 16) :: (4, 17) :: (5, 18) :: (6, 19) :: (7, 20) :: (8, 21) :: (9, 22) :: (10, 23) :: []) (.det _ :: .det _ :: .det _ :: .det _ :: .det _ :: .det _ :: .det _ :: (SB.Good.own fun v => False) :: (SB.Good.own fun v => False) :: (SB.Good.own fun v => False) :: .det _ :: (SB.Good.own fun v => False) :: []) (by kernel_rfl) ?hpan (by kernel_rfl) (by kernel_rfl) rfl (by kernel_rfl) (by kernel_rfl) rfl ?hone ?hend
    case hpan =>
     (intro chain a' w' hdf hch; have hjj : j = rs.length := (by have := congrArg List.length hR; simp at this; omega); exact ⟨hdf, (by rw [if_neg (by omega)]; exact ⟨⟨x0, x1, x2, x3, x4, x5, x6, x7, x8, x9⟩, hjj ▸ hlx, hch.1⟩), HB5.out.trans (ExtB.of hch.2)⟩)
    case hone =>
     intro CS frS VS hCS ha hV
     have qs0 := slot_val (t := 0) ha rfl
     simp only [List.getElem_toArray, List.getElem_cons_succ, List.getElem_cons_zero] at qs0
     have qs4 := slot_val (t := 4) ha rfl
     simp only [List.getElem_toArray, List.getElem_cons_succ, List.getElem_cons_zero] at qs4
     have qs6 := slot_val (t := 6) ha rfl
     simp only [List.getElem_toArray, List.getElem_cons_succ, List.getElem_cons_zero] at qs6
     have HCS := Lib.hid hCS
     have HVS := Lib.hid hV
     clear ha hCS hV
     refine SB.sure_det (js := []) (ts := [4]) (gd := none) (bs := [gA]) (SB.place_at HVS.out (k := 0) rfl) (by rw [HCS.out]; kernel_rfl) (by rw [HCS.out]; kernel_rfl) ?_ ?_
     ·intro wx hx ρ hρ hs hf; have hρc := hρ.const; have hρf := hρ.func
      obtain ⟨fx4, -⟩ := hf; rw [qs4] at fx4
      clear hs
      clear HCS HVS qs0 qs4 qs6
      refine SB.run_plain ?_
      unfold SB.runs
      go_simp
      exact SB.detK.mk
     refine SB.sure_det (js := [(0, 13)]) (ts := []) (gd := none) (bs := [gA]) (SB.place_at HVS.out (k := 1) rfl) (by rw [HCS.out]; kernel_rfl) (by rw [HCS.out]; kernel_rfl) ?_ ?_
     ·intro wx hx ρ hρ hs hf; have hρc := hρ.const; have hρf := hρ.func; obtain ⟨sn0, -⟩ := hs
      rw [SB.place_at HVS.out (k := 0) rfl] at sn0; replace sn0 : ρ (.tmp 13) = _ := sn0
      clear hf
      clear HCS HVS qs0 qs4 qs6
      refine SB.run_plain ?_
      have z2 := hX2 _ _ hx (by simp [ng])
      unfold SB.runs
      go_simp
      exact SB.detK.mk
     refine SB.sure_det (js := [(1, 14)]) (ts := []) (gd := none) (bs := [gA]) (SB.place_at HVS.out (k := 2) rfl) (by rw [HCS.out]; kernel_rfl) (by rw [HCS.out]; kernel_rfl) ?_ ?_
     ·intro wx hx ρ hρ hs hf; have hρc := hρ.const; have hρf := hρ.func; obtain ⟨sn1, -⟩ := hs
      rw [SB.place_at HVS.out (k := 1) rfl] at sn1; replace sn1 : ρ (.tmp 14) = _ := sn1
      clear hf
      clear HCS HVS qs0 qs4 qs6
      refine SB.run_plain ?_
      unfold SB.runs
      go_simp
      exact SB.detK.mk
     refine SB.sure_det (js := []) (ts := [4]) (gd := none) (bs := [gA]) (SB.place_at HVS.out (k := 3) rfl) (by rw [HCS.out]; kernel_rfl) (by rw [HCS.out]; kernel_rfl) ?_ ?_
     ·intro wx hx ρ hρ hs hf; have hρc := hρ.const; have hρf := hρ.func
      obtain ⟨fx4, -⟩ := hf; rw [qs4] at fx4
      clear hs
      clear HCS HVS qs0 qs4 qs6
      refine SB.run_plain ?_
      unfold SB.runs
      go_simp
      exact SB.detK.mk
     refine SB.sure_det (js := [(3, 16)]) (ts := []) (gd := none) (bs := [gA]) (SB.place_at HVS.out (k := 4) rfl) (by rw [HCS.out]; kernel_rfl) (by rw [HCS.out]; kernel_rfl) ?_ ?_
     ·intro wx hx ρ hρ hs hf; have hρc := hρ.const; have hρf := hρ.func; obtain ⟨sn3, -⟩ := hs
      rw [SB.place_at HVS.out (k := 3) rfl] at sn3; replace sn3 : ρ (.tmp 16) = _ := sn3
      clear hf
      clear HCS HVS qs0 qs4 qs6
      refine SB.run_plain ?_
      have z3 := hX3 _ _ hx (by simp [ng])
      unfold SB.runs
      go_simp
      exact SB.detK.mk
     refine SB.sure_det (js := []) (ts := [0]) (gd := none) (bs := []) (SB.place_at HVS.out (k := 5) rfl) (by rw [HCS.out]; kernel_rfl) (by rw [HCS.out]; kernel_rfl) ?_ ?_
     ·intro wx hx ρ hρ hs hf; have hρc := hρ.const; have hρf := hρ.func
      obtain ⟨fx0, -⟩ := hf; rw [qs0] at fx0
      clear hs
      clear HCS HVS qs0 qs4 qs6
      refine SB.run_plain ?_
      refine SB.op_move rfl fx0 ?_
      exact SB.detK.mk
     refine SB.sure_det (js := []) (ts := [6]) (gd := none) (bs := []) (SB.place_at HVS.out (k := 6) rfl) (by rw [HCS.out]; kernel_rfl) (by rw [HCS.out]; kernel_rfl) ?_ ?_
     ·intro wx hx ρ hρ hs hf; have hρc := hρ.const; have hρf := hρ.func
      obtain ⟨fx6, -⟩ := hf; rw [qs6] at fx6
      clear hs
      clear HCS HVS qs0 qs4 qs6
      refine SB.run_plain ?_
      obtain ⟨b0, b1, b2, b3, b4, b5⟩ := hX6 _ hx
      unfold SB.runs
      go_simp
      exact SB.detK.mk
     refine SB.sure_wild (js := [(5, 18), (6, 19)]) (ts := []) (gd := none) (bs := []) (cs := [gA]) (SB.place_at HVS.out (k := 7) rfl) (by rw [HCS.out]; kernel_rfl) (by rw [HCS.out]; kernel_rfl) rfl ?_ ?_
     ·intro wx hx ρ hρ hs hf; have hρc := hρ.const; have hρf := hρ.func; obtain ⟨sn5, sn6, -⟩ := hs
      rw [SB.place_at HVS.out (k := 5) rfl] at sn5; replace sn5 : ρ (.tmp 18) = _ := sn5
      rw [SB.place_at HVS.out (k := 6) rfl] at sn6; replace sn6 : ρ (.tmp 19) = _ := sn6
      clear hf
      clear HCS HVS qs0 qs4 qs6
      refine SB.run_plain ?_
      refine SB.op_callv rfl sn5 Try.call132 (map_one sn6) ?_
      refine Calls.mono (do_stop (.int .i64 x0) (.int .i64 x1) (.int .u64 x2) (.int .u64 x3) (.slice x4 x5 x6) (.slice x7 x8 x9) gA gL m wx (hD5.ext hx.ext.drawn)) ?_
      rintro e w' ⟨rfl, hx7⟩
      exact .inr ⟨_, rfl, rfl, hx.ext.drawn.trans hx7⟩
     refine SB.sure_op (js := [(7, 20)]) (ts := []) (gd := none) (bs := [gA, gO]) (SB.place_at HVS.out (k := 8) rfl) (by rw [HCS.out]; kernel_rfl) (by rw [HCS.out]; kernel_rfl) ?_ ?_
     ·intro wx hx ρ hρ hs hf; have hρc := hρ.const; have hρf := hρ.func; obtain ⟨sn7, -⟩ := hs
      rw [SB.place_at HVS.out (k := 7) rfl] at sn7; replace sn7 : False := sn7
      clear hf
      clear HCS HVS qs0 qs4 qs6
      refine SB.run_plain ?_
      exact sn7.elim
     refine SB.sure_op (js := [(4, 17), (8, 21)]) (ts := []) (gd := none) (bs := [gA, gO]) (SB.place_at HVS.out (k := 9) rfl) (by rw [HCS.out]; kernel_rfl) (by rw [HCS.out]; kernel_rfl) ?_ ?_
     ·intro wx hx ρ hρ hs hf; have hρc := hρ.const; have hρf := hρ.func; obtain ⟨sn4, sn8, -⟩ := hs
      rw [SB.place_at HVS.out (k := 4) rfl] at sn4; replace sn4 : ρ (.tmp 17) = _ := sn4
      rw [SB.place_at HVS.out (k := 8) rfl] at sn8; replace sn8 : False := sn8
      clear hf
      clear HCS HVS qs0 qs4 qs6
      refine SB.run_plain ?_
      exact sn8.elim
     refine SB.sure_det (js := []) (ts := [4]) (gd := none) (bs := [gA]) (SB.place_at HVS.out (k := 10) rfl) (by rw [HCS.out]; kernel_rfl) (by rw [HCS.out]; kernel_rfl) ?_ ?_
     ·intro wx hx ρ hρ hs hf; have hρc := hρ.const; have hρf := hρ.func
      obtain ⟨fx4, -⟩ := hf; rw [qs4] at fx4
      clear hs
      clear HCS HVS qs0 qs4 qs6
      refine SB.run_plain ?_
      unfold SB.runs
      go_simp
      exact SB.detK.mk
     refine SB.sure_wild (js := [(2, 15), (7, 20), (10, 23)]) (ts := []) (gd := none) (bs := [gA]) (cs := [gO]) (SB.place_at HVS.out (k := 11) rfl) (by rw [HCS.out]; kernel_rfl) (by rw [HCS.out]; kernel_rfl) rfl ?_ ?_
     ·intro wx hx ρ hρ hs hf; have hρc := hρ.const; have hρf := hρ.func; obtain ⟨sn2, sn7, sn10, -⟩ := hs
      rw [SB.place_at HVS.out (k := 2) rfl] at sn2; replace sn2 : ρ (.tmp 15) = _ := sn2
      rw [SB.place_at HVS.out (k := 7) rfl] at sn7; replace sn7 : False := sn7
      rw [SB.place_at HVS.out (k := 10) rfl] at sn10; replace sn10 : ρ (.tmp 23) = _ := sn10
      clear hf
      clear HCS HVS qs0 qs4 qs6
      refine SB.run_plain ?_
      exact sn7.elim
     exact trivial
    case hend =>
     intro xs wx hx hg hq
     have gk0 : xs 0 = _ := SB.goods_get hg (i := 0) (j := 0) (d := 13) rfl
     have gk1 : xs 1 = _ := SB.goods_get hg (i := 1) (j := 1) (d := 14) rfl
     have gk2 : xs 2 = _ := SB.goods_get hg (i := 2) (j := 2) (d := 15) rfl
     have gk3 : xs 3 = _ := SB.goods_get hg (i := 3) (j := 3) (d := 16) rfl
     have gk4 : xs 4 = _ := SB.goods_get hg (i := 4) (j := 4) (d := 17) rfl
     have gk5 : xs 5 = _ := SB.goods_get hg (i := 5) (j := 5) (d := 18) rfl
     have gk6 : xs 6 = _ := SB.goods_get hg (i := 6) (j := 6) (d := 19) rfl
     have gk7 : False := SB.goods_get hg (i := 7) (j := 7) (d := 20) rfl
     have gk8 : False := SB.goods_get hg (i := 8) (j := 8) (d := 21) rfl
     have gk9 : False := SB.goods_get hg (i := 9) (j := 9) (d := 22) rfl
     have gk10 : xs 10 = _ := SB.goods_get hg (i := 10) (j := 10) (d := 23) rfl
     obtain ⟨-, gk11⟩ : ∃ v : Value, False := hq 11 (by decide) (by kernel_rfl)
     clear hg hq
     simp only [putAll, gk0, gk1, gk2, gk3, gk4, gk5, gk6, gk10]
     clear gk0 gk1 gk2 gk3 gk4 gk5 gk6 gk10
     generalize xs 7 = vx7 at gk7 ⊢
     generalize xs 8 = vx8 at gk8 ⊢
     generalize xs 9 = vx9 at gk9 ⊢
     clear xs
     simp only [Act.put, List.setIfInBounds_toArray, List.set_cons_zero, List.set_cons_succ, List.drop_succ_cons, List.drop_zero]
     exact gk7.elim
   | cons r R =>
    refine' SB.wp_region_sure (gx := [(7, gA), (11, gO)]) (Pn := fun _ _ => False) ⟨((some 13, [], none) :: (some 14, [0], none) :: (some 15, [1], none) :: (some 16, [], none) :: (some 17, [3], none) :: (some 18, [], none) :: (some 19, [], none) :: (some 20, [5, 6], none) :: (some 21, [7], none) :: (some 22, [4, 8], none) :: (some 23, [0, 1, 2, 3, 4], none) :: (none, [10, 2, 7, 0, 1, 2, 3, 4], none) :: (some 24, [0, 1, 2, 3, 4, 5, 6, 7, 8, 9, 10, 11], none) :: (none, [12, 9, 11, 0, 1, 2, 3, 4, 5, 6, 7, 8, 9, 10, 11], none) :: []), (0 :: 1 :: 3 :: 0 :: 8 :: 0 :: 0 :: 96 :: 224 :: 504 :: 31 :: 1279 :: 4095 :: 8191 :: []), (none :: none :: none :: none :: none :: none :: none :: some [11] :: none :: none :: none :: some [] :: []), [7, 11]⟩ 12 27 ((0, 13) :: (1, 14) :: (2, 15) :: (3, 16) :: (4, 17) :: (5, 18) :: (6, 19) :: (7, 20) :: (8, 21) :: (9, 22) :: (10, 23) :: []) ((0, 13) :: (1, 14) :: (2, 15) :: (3, 16) :: (4, 17) :: (5, 18) :: (6, 19) :: (7, 20) :: (8, 21) :: (9, 22) :: (10, 23) :: []) (.det _ :: .det _ :: .det _ :: .det _ :: .det _ :: .det _ :: .det _ :: SB.Good.past (fun v w => v = .agg #[.int .u64 r.n, .slice r.A r.k r.c, .bool r.fail] ∧ DoAt m w gA gL R) (fun v w w' h hx => ⟨h.1, h.2.ext hx⟩) 11 (fun v w w' h hx => ⟨h.1, h.2.away hx.toB (Ne.symm ng) ngL nm⟩) :: .det _ :: .det _ :: .det _ :: SB.Good.of (fun v w => DoAt m w gA gL R ∧ w.heap[gO]? = some (.cells #[.int .i64 0, .bool false, .int .i64 ((j : Int) + 1), .int .u64 (lineSum rs j), .slice none 0 0] 37 (0, 0))) (fun v w w' h hx => ⟨h.1.ext hx, heap_ext h.2 hx⟩) :: []) (by kernel_rfl) ?hpan (by kernel_rfl) (by kernel_rfl) rfl (by kernel_rfl) (by kernel_rfl) rfl ?hone ?hend
    case hpan =>
     intro _ _ _ _ h; exact h.elim
    case hone =>
     intro CS frS VS hCS ha hV
     have qs0 := slot_val (t := 0) ha rfl
     simp only [List.getElem_toArray, List.getElem_cons_succ, List.getElem_cons_zero] at qs0
     have qs4 := slot_val (t := 4) ha rfl
     simp only [List.getElem_toArray, List.getElem_cons_succ, List.getElem_cons_zero] at qs4
     have qs6 := slot_val (t := 6) ha rfl
     simp only [List.getElem_toArray, List.getElem_cons_succ, List.getElem_cons_zero] at qs6
     have HCS := Lib.hid hCS
     have HVS := Lib.hid hV
     clear ha hCS hV
     refine SB.sure_det (js := []) (ts := [4]) (gd := none) (bs := [gA]) (SB.place_at HVS.out (k := 0) rfl) (by rw [HCS.out]; kernel_rfl) (by rw [HCS.out]; kernel_rfl) ?_ ?_
     ·intro wx hx ρ hρ hs hf; have hρc := hρ.const; have hρf := hρ.func
      obtain ⟨fx4, -⟩ := hf; rw [qs4] at fx4
      clear hs
      clear HCS HVS qs0 qs4 qs6
      refine SB.run_plain ?_
      unfold SB.runs
      go_simp
      exact SB.detK.mk
     refine SB.sure_det (js := [(0, 13)]) (ts := []) (gd := none) (bs := [gA]) (SB.place_at HVS.out (k := 1) rfl) (by rw [HCS.out]; kernel_rfl) (by rw [HCS.out]; kernel_rfl) ?_ ?_
     ·intro wx hx ρ hρ hs hf; have hρc := hρ.const; have hρf := hρ.func; obtain ⟨sn0, -⟩ := hs
      rw [SB.place_at HVS.out (k := 0) rfl] at sn0; replace sn0 : ρ (.tmp 13) = _ := sn0
      clear hf
      clear HCS HVS qs0 qs4 qs6
      refine SB.run_plain ?_
      have z2 := hX2 _ _ hx (by simp [ng])
      unfold SB.runs
      go_simp
      exact SB.detK.mk
     refine SB.sure_det (js := [(1, 14)]) (ts := []) (gd := none) (bs := [gA]) (SB.place_at HVS.out (k := 2) rfl) (by rw [HCS.out]; kernel_rfl) (by rw [HCS.out]; kernel_rfl) ?_ ?_
     ·intro wx hx ρ hρ hs hf; have hρc := hρ.const; have hρf := hρ.func; obtain ⟨sn1, -⟩ := hs
      rw [SB.place_at HVS.out (k := 1) rfl] at sn1; replace sn1 : ρ (.tmp 14) = _ := sn1
      clear hf
      clear HCS HVS qs0 qs4 qs6
      refine SB.run_plain ?_
      unfold SB.runs
      go_simp
      exact SB.detK.mk
     refine SB.sure_det (js := []) (ts := [4]) (gd := none) (bs := [gA]) (SB.place_at HVS.out (k := 3) rfl) (by rw [HCS.out]; kernel_rfl) (by rw [HCS.out]; kernel_rfl) ?_ ?_
     ·intro wx hx ρ hρ hs hf; have hρc := hρ.const; have hρf := hρ.func
      obtain ⟨fx4, -⟩ := hf; rw [qs4] at fx4
      clear hs
      clear HCS HVS qs0 qs4 qs6
      refine SB.run_plain ?_
      unfold SB.runs
      go_simp
      exact SB.detK.mk
     refine SB.sure_det (js := [(3, 16)]) (ts := []) (gd := none) (bs := [gA]) (SB.place_at HVS.out (k := 4) rfl) (by rw [HCS.out]; kernel_rfl) (by rw [HCS.out]; kernel_rfl) ?_ ?_
     ·intro wx hx ρ hρ hs hf; have hρc := hρ.const; have hρf := hρ.func; obtain ⟨sn3, -⟩ := hs
      rw [SB.place_at HVS.out (k := 3) rfl] at sn3; replace sn3 : ρ (.tmp 16) = _ := sn3
      clear hf
      clear HCS HVS qs0 qs4 qs6
      refine SB.run_plain ?_
      have z3 := hX3 _ _ hx (by simp [ng])
      unfold SB.runs
      go_simp
      exact SB.detK.mk
     refine SB.sure_det (js := []) (ts := [0]) (gd := none) (bs := []) (SB.place_at HVS.out (k := 5) rfl) (by rw [HCS.out]; kernel_rfl) (by rw [HCS.out]; kernel_rfl) ?_ ?_
     ·intro wx hx ρ hρ hs hf; have hρc := hρ.const; have hρf := hρ.func
      obtain ⟨fx0, -⟩ := hf; rw [qs0] at fx0
      clear hs
      clear HCS HVS qs0 qs4 qs6
      refine SB.run_plain ?_
      refine SB.op_move rfl fx0 ?_
      exact SB.detK.mk
     refine SB.sure_det (js := []) (ts := [6]) (gd := none) (bs := []) (SB.place_at HVS.out (k := 6) rfl) (by rw [HCS.out]; kernel_rfl) (by rw [HCS.out]; kernel_rfl) ?_ ?_
     ·intro wx hx ρ hρ hs hf; have hρc := hρ.const; have hρf := hρ.func
      obtain ⟨fx6, -⟩ := hf; rw [qs6] at fx6
      clear hs
      clear HCS HVS qs0 qs4 qs6
      refine SB.run_plain ?_
      obtain ⟨b0, b1, b2, b3, b4, b5⟩ := hX6 _ hx
      unfold SB.runs
      go_simp
      exact SB.detK.mk
     refine SB.sure_wild (js := [(5, 18), (6, 19)]) (ts := []) (gd := none) (bs := []) (cs := [gA]) (SB.place_at HVS.out (k := 7) rfl) (by rw [HCS.out]; kernel_rfl) (by rw [HCS.out]; kernel_rfl) rfl ?_ ?_
     ·intro wx hx ρ hρ hs hf; have hρc := hρ.const; have hρf := hρ.func; obtain ⟨sn5, sn6, -⟩ := hs
      rw [SB.place_at HVS.out (k := 5) rfl] at sn5; replace sn5 : ρ (.tmp 18) = _ := sn5
      rw [SB.place_at HVS.out (k := 6) rfl] at sn6; replace sn6 : ρ (.tmp 19) = _ := sn6
      clear hf
      clear HCS HVS qs0 qs4 qs6
      refine SB.run_plain ?_
      refine SB.op_callv rfl sn5 Try.call132 (map_one sn6) ?_
      refine Calls.mono (do_next (.int .i64 x0) (.int .i64 x1) (.int .u64 x2) (.int .u64 x3) (.slice x4 x5 x6) (.slice x7 x8 x9) gA gL r R m wx (hD5.ext hx.ext.drawn)) ?_
      rintro e w' ⟨rfl, hD7, hB7⟩
      exact .inl ⟨_, rfl, .ofB hB7 (by simp), rfl, hD7⟩
     refine SB.sure_det (js := [(7, 20)]) (ts := []) (gd := none) (bs := [gA, gO]) (SB.place_at HVS.out (k := 8) rfl) (by rw [HCS.out]; kernel_rfl) (by rw [HCS.out]; kernel_rfl) ?_ ?_
     ·intro wx hx ρ hρ hs hf; have hρc := hρ.const; have hρf := hρ.func; obtain ⟨sn7, -⟩ := hs
      rw [SB.place_at HVS.out (k := 7) rfl] at sn7; replace sn7 : (ρ (.tmp 20)) = .agg #[.int .u64 r.n, .slice r.A r.k r.c, .bool r.fail] ∧ DoAt m wx gA gL R := sn7
      clear hf
      clear HCS HVS qs0 qs4 qs6
      refine SB.run_plain ?_
      obtain ⟨e7, -⟩ := sn7
      unfold SB.runs
      go_simp
      exact SB.detK.mk
     refine SB.sure_det (js := [(4, 17), (8, 21)]) (ts := []) (gd := none) (bs := [gA, gO]) (SB.place_at HVS.out (k := 9) rfl) (by rw [HCS.out]; kernel_rfl) (by rw [HCS.out]; kernel_rfl) ?_ ?_
     ·intro wx hx ρ hρ hs hf; have hρc := hρ.const; have hρf := hρ.func; obtain ⟨sn4, sn8, -⟩ := hs
      rw [SB.place_at HVS.out (k := 4) rfl] at sn4; replace sn4 : ρ (.tmp 17) = _ := sn4
      rw [SB.place_at HVS.out (k := 8) rfl] at sn8; replace sn8 : ρ (.tmp 21) = _ := sn8
      clear hf
      clear HCS HVS qs0 qs4 qs6
      refine SB.run_plain ?_
      unfold SB.runs
      go_simp
      exact SB.detK.mk
     refine SB.sure_det (js := []) (ts := [4]) (gd := none) (bs := [gA]) (SB.place_at HVS.out (k := 10) rfl) (by rw [HCS.out]; kernel_rfl) (by rw [HCS.out]; kernel_rfl) ?_ ?_
     ·intro wx hx ρ hρ hs hf; have hρc := hρ.const; have hρf := hρ.func
      obtain ⟨fx4, -⟩ := hf; rw [qs4] at fx4
      clear hs
      clear HCS HVS qs0 qs4 qs6
      refine SB.run_plain ?_
      unfold SB.runs
      go_simp
      exact SB.detK.mk
     refine SB.sure_wild (js := [(2, 15), (7, 20), (10, 23)]) (ts := []) (gd := none) (bs := [gA]) (cs := [gO]) (SB.place_at HVS.out (k := 11) rfl) (by rw [HCS.out]; kernel_rfl) (by rw [HCS.out]; kernel_rfl) rfl ?_ ?_
     ·intro wx hx ρ hρ hs hf; have hρc := hρ.const; have hρf := hρ.func; obtain ⟨sn2, sn7, sn10, -⟩ := hs
      rw [SB.place_at HVS.out (k := 2) rfl] at sn2; replace sn2 : ρ (.tmp 15) = _ := sn2
      rw [SB.place_at HVS.out (k := 7) rfl] at sn7; replace sn7 : (ρ (.tmp 20)) = .agg #[.int .u64 r.n, .slice r.A r.k r.c, .bool r.fail] ∧ DoAt m wx gA gL R := sn7
      rw [SB.place_at HVS.out (k := 10) rfl] at sn10; replace sn10 : ρ (.tmp 23) = _ := sn10
      clear hf
      clear HCS HVS qs0 qs4 qs6
      refine SB.run_plain ?_
      obtain ⟨-, hD7⟩ := sn7
      have z2 := hX2 _ _ hx (by simp [ng])
      have hg := hx.heap HG5.out (by simp [ng])
      have f2 : wx.frozen? ⟨gO, 2, none⟩ = false := by simp [World.frozen?, hg]
      unfold SB.runs
      go_simp
      exact ⟨.ofB ((ExtB.refl _ _).set _ _) (by simp), hD7.away ((ExtB.refl _ _).set _ _) (Ne.symm ng) ngL nm, by simp [World.setCell, Array.getElem?_modify, hg]⟩
     exact trivial
    case hend =>
     intro xs wx hx hg hq
     have gk0 : xs 0 = _ := SB.goods_get hg (i := 0) (j := 0) (d := 13) rfl
     have gk1 : xs 1 = _ := SB.goods_get hg (i := 1) (j := 1) (d := 14) rfl
     have gk2 : xs 2 = _ := SB.goods_get hg (i := 2) (j := 2) (d := 15) rfl
     have gk3 : xs 3 = _ := SB.goods_get hg (i := 3) (j := 3) (d := 16) rfl
     have gk4 : xs 4 = _ := SB.goods_get hg (i := 4) (j := 4) (d := 17) rfl
     have gk5 : xs 5 = _ := SB.goods_get hg (i := 5) (j := 5) (d := 18) rfl
     have gk6 : xs 6 = _ := SB.goods_get hg (i := 6) (j := 6) (d := 19) rfl
     have gk7 : (xs 7) = .agg #[.int .u64 r.n, .slice r.A r.k r.c, .bool r.fail] ∧ DoAt m wx gA gL R := SB.goods_get hg (i := 7) (j := 7) (d := 20) rfl
     have gk8 : xs 8 = _ := SB.goods_get hg (i := 8) (j := 8) (d := 21) rfl
     have gk9 : xs 9 = _ := SB.goods_get hg (i := 9) (j := 9) (d := 22) rfl
     have gk10 : xs 10 = _ := SB.goods_get hg (i := 10) (j := 10) (d := 23) rfl
     obtain ⟨-, gk11⟩ : ∃ v : Value, DoAt m wx gA gL R ∧ wx.heap[gO]? = some (.cells #[.int .i64 0, .bool false, .int .i64 ((j : Int) + 1), .int .u64 (lineSum rs j), .slice none 0 0] 37 (0, 0)) := hq 11 (by decide) (by kernel_rfl)
     clear hg hq
     simp only [putAll, gk0, gk1, gk2, gk3, gk4, gk5, gk6, gk8, gk9, gk10]
     clear gk0 gk1 gk2 gk3 gk4 gk5 gk6 gk8 gk9 gk10
     generalize xs 7 = vx7 at gk7 ⊢
     clear xs
     simp only [Act.put, List.setIfInBounds_toArray, List.set_cons_zero, List.set_cons_succ, List.drop_succ_cons, List.drop_zero]
     obtain ⟨e7, -⟩ := gk7
     obtain ⟨hD8, hg8⟩ := gk11
     subst e7
     have q3 : wx.cell? ⟨gO, 3, none⟩ = some (.int .u64 (lineSum rs j)) := by simp [World.cell?, hg8]
     have f3 : wx.frozen? ⟨gO, 3, none⟩ = false := by simp [World.frozen?, hg8]
     go_wp2
     rw [lineSum_step hR]
     obtain ⟨hR1, hR2⟩ := drop_step hR
     have hx8 : SB.ExtS [gA, gO] W5.drew wx := hx
     clear hx
     subst hgO
     go_roundw
     case rel => exact ⟨j + 1, by omega, by omega, by go_num, by rw [hR1]; exact hD8.away ((ExtB.refl _ _).set _ _) (Ne.symm ng) ngL nm, by simp [World.setCell, Array.getElem?_modify, hg8], by
      rw [Below.heap_setCell _ _ _ _ (by simp)]; exact hx8.heap HG6.out (by simp; omega), (extB_of_S HB5.out hx8 (by omega)).trans_set (by omega)⟩
     case measure => simp [intOf]; omega
  ·obtain rfl : j = n := by omega
   have d0 : wr.cell? ⟨w.heap.size + 1, 0, none⟩ = some (.int .i64 0) := by simp [World.cell?, hg4]
   have d1 : wr.cell? ⟨w.heap.size + 1, 1, none⟩ = some (.bool false) := by simp [World.cell?, hg4]
   have d2 : wr.cell? ⟨w.heap.size + 1, 2, none⟩ = some (.int .i64 j) := by simp [World.cell?, hg4]
   have d3 : wr.cell? ⟨w.heap.size + 1, 3, none⟩ = some (.int .u64 (lineSum rs j)) := by simp [World.cell?, hg4]
   have d4 : wr.cell? ⟨w.heap.size + 1, 4, none⟩ = some (.slice none 0 0) := by simp [World.cell?, hg4]
   have e0 : wr.cell? ⟨w.heap.size, 0, none⟩ = some (.int .i64 0) := by simp [World.cell?, hg3, outZero]
   have e1 : wr.cell? ⟨w.heap.size, 1, none⟩ = some (.bool false) := by simp [World.cell?, hg3, outZero]
   have e2 : wr.cell? ⟨w.heap.size, 2, none⟩ = some (.int .i64 0) := by simp [World.cell?, hg3, outZero]
   have e3 : wr.cell? ⟨w.heap.size, 3, none⟩ = some (.int .u64 0) := by simp [World.cell?, hg3, outZero]
   have e4 : wr.cell? ⟨w.heap.size, 4, none⟩ = some (.slice none 0 0) := by simp [World.cell?, hg3, outZero]
   have f0 : wr.frozen? ⟨w.heap.size, 0, none⟩ = false := by simp [World.frozen?, hg3]
   have f1 : wr.frozen? ⟨w.heap.size, 1, none⟩ = false := by simp [World.frozen?, hg3]
   have f2 : wr.frozen? ⟨w.heap.size, 2, none⟩ = false := by simp [World.frozen?, hg3]
   have f3 : wr.frozen? ⟨w.heap.size, 3, none⟩ = false := by simp [World.frozen?, hg3]
   have f4 : wr.frozen? ⟨w.heap.size, 4, none⟩ = false := by simp [World.frozen?, hg3]
   have HB := Lib.hid hB
   clear hB hg4 hg3 hD hdo cl cl2 hgl h3 h4 hW
   go_wp2
   refine bodyPost_ret (v := .agg #[.int .i64 0, .bool false, .int .i64 j, .int .u64 (lineSum rs j), .slice none 0 0]) (by simp [results, Try.results116, go_sem, e0, e1, e2, e3, e4]) rfl ⟨by simp only [OutN.cells], ?_⟩
   exact ((((HB.out.trans_set (Nat.le_refl _)).trans_set (Nat.le_refl _)).trans_set (Nat.le_refl _)).trans_set (Nat.le_refl _)).trans_set (Nat.le_refl _)
end Go.Proofs.Ytkdjmfaodojmfaa

namespace Go.Proofs.Ytkdjmfaodojmfaa
open Go.RowKit

/-! play.Line. -/
def Acc.zero : Acc := ⟨0, 0, 0, 0, none, 0, 0, none, 0, 0⟩
/-- what a row of accesses asks, or answers -/
def lineEnd (l : List Acc) (rs : List Res) : Ending :=
  if l.length ≤ rs.length then .returned (.tuple #[.agg accZero, .agg (OutN.cells ⟨0, false, l.length, lineSum rs l.length⟩), .bool true])
  else .returned (.tuple #[.agg ((l[rs.length]?).elim accZero Acc.cells), .agg outZero, .bool false])
theorem three_boxes (w : World) (o0 o1 o2 : Obj) :
    Ext w (((w.alloc o0).alloc o1).alloc o2) ∧ (((w.alloc o0).alloc o1).alloc o2).heap.size = w.heap.size + 3 ∧
    (((w.alloc o0).alloc o1).alloc o2).heap[w.heap.size]? = some o0 ∧ (((w.alloc o0).alloc o1).alloc o2).heap[w.heap.size + 1]? = some o1 ∧ (((w.alloc o0).alloc o1).alloc o2).heap[w.heap.size + 1 + 1]? = some o2 := by
  refine ⟨((((Below.refl _ w).alloc (Nat.le_refl _) _).alloc (by simp) _).alloc (by simp; omega) _), by simp, ?_, ?_, ?_⟩
  · rw [Below.heap_alloc _ _ _ (by first | (simp; omega) | simp), Below.heap_alloc _ _ _ (by first | (simp; omega) | simp)]
    simpa using heap_alloc_new w o0
  · rw [Below.heap_alloc _ _ _ (by first | (simp; omega) | simp)]
    simpa using heap_alloc_new (w.alloc o0) o1
  · simpa using heap_alloc_new ((w.alloc o0).alloc o1) o2
theorem AccsV.low {w : World} {a : Addr} {n c : Nat} {l : List Acc} (h : AccsV w (some a) n c l) (hn : 0 < n) : a.block < w.heap.size := by
  obtain ⟨b, hb, hc⟩ := h.at_ 0 (l[0]'(by rw [h.len]; exact hn)) (List.getElem?_eq_getElem _)
  obtain rfl : a = b := Option.some.inj hb
  have := lt_of_cell (hc 0 _ rfl)
  rwa [add_block, add_block] at this
set_option maxRecDepth 100000 in
set_option maxHeartbeats 4000000 in
theorem line_any (A : Option Addr) (n c : Nat) (l : List Acc) (B : Option Addr) (k kc : Nat) (rs : List Res) (w : World) (hl : AccsV w A n c l) (hn : n ≤ 65536) (hlog : LogV w B k kc rs) :
    Calls Try.prog 54 #[.slice A n c, .slice B k kc] w fun e w' => e = lineEnd l rs ∧ Ext w w' := by
  have hmf : ∀ (fn : Fn) (first cap : Array Value) (w : World), (Instr.makeFunc fn first cap).run Try.prog w = .ok (.func fn first cap) w := fun _ _ _ _ => rfl
  have hlen : l.length = n := hl.len
  go_enter Try.func54, Try.ntmps54
  go_upto_region 1 with (fail)
  obtain ⟨hW, hsz, hL, hE, hO⟩ := three_boxes w (.cells #[.slice A n c] 79) (.cells #[.int .i64 0, .int .i64 0, .int .u64 0, .int .u64 0, .slice none 0 0, .slice none 0 0] 33) (.cells #[.int .i64 0, .bool false, .int .i64 0, .int .u64 0, .slice none 0 0] 37)
  generalize ((w.alloc (.cells #[.slice A n c] 79)).alloc (.cells #[.int .i64 0, .int .i64 0, .int .u64 0, .int .u64 0, .slice none 0 0, .slice none 0 0] 33)).alloc (.cells #[.int .i64 0, .bool false, .int .i64 0, .int .u64 0, .slice none 0 0] 37) = W at *
  have hprog : ∀ (gA gL : Nat) (W' : World), Ext W W' → W.heap.size ≤ gA → gA < W'.heap.size → DoAt W.heap.size W' gA gL rs →
      Calls Try.prog 116 (#[doV gA gL] ++ #[.pointer (some ⟨w.heap.size, 0, none⟩)]) W' fun e w' => (if n ≤ rs.length then e = .returned (.agg (OutN.cells ⟨0, false, n, lineSum rs n⟩)) else ∃ x, l[rs.length]? = some x ∧ e = needP x.cells) ∧ ExtB gA W' w' := fun gA gL W' hx h1 h2 hD =>
    line_prog A n c l gA gL w.heap.size W.heap.size (0, 0) rs W' ((hl.ext hW).ext hx) (fun a ha hn0 => by subst ha; have := hl.low hn0; omega) (heap_ext hL hx) (by omega) hn hD hx.size
  have hrun : Calls Try.prog 102 #[.func (.func 116) #[] #[.pointer (some ⟨w.heap.size, 0, none⟩)], .slice B k kc] W fun e w' =>
      ∃ (x : Acc) (o : OutN) (d : Bool), e = .returned (.tuple #[.agg x.cells, .agg o.cells, .bool d]) ∧ lineEnd l rs = e ∧ Ext W w' := by
    by_cases hle : n ≤ rs.length
    · refine (run_done 116 #[.pointer (some ⟨w.heap.size, 0, none⟩)] B k kc rs ⟨0, false, n, lineSum rs n⟩ W (hlog.ext hW) Try.call116 fun gA gL W' hx h1 h2 hD => (hprog gA gL W' hx h1 h2 hD).mono ?_).mono ?_
      · rintro e w' ⟨he, hB⟩
        rw [if_pos hle] at he
        exact ⟨he, hB⟩
      · rintro e w' ⟨rfl, hx⟩
        exact ⟨⟨0, 0, 0, 0, none, 0, 0, none, 0, 0⟩, _, true, rfl, by simp only [lineEnd, hlen, if_pos hle], hx⟩
    · have hlt : rs.length < l.length := by omega
      refine (run_stop 116 #[.pointer (some ⟨w.heap.size, 0, none⟩)] B k kc rs (l[rs.length]'hlt) W (hlog.ext hW) Try.call116 fun gA gL W' hx h1 h2 hD => (hprog gA gL W' hx h1 h2 hD).mono ?_).mono ?_
      · rintro e w' ⟨he, hB⟩
        rw [if_neg hle] at he
        obtain ⟨x, hx, he⟩ := he
        rw [List.getElem?_eq_getElem hlt] at hx
        cases hx
        exact ⟨he, hB⟩
      · rintro e w' ⟨rfl, hx⟩
        refine ⟨_, ⟨0, false, 0, 0⟩, false, rfl, ?_, hx⟩
        simp only [lineEnd, hlen, if_neg hle, List.getElem?_eq_getElem hlt, Option.elim]
  clear hprog
  go_wp2_with fail
  refine hrun.mono ?_
  rintro e w1 ⟨⟨x0, x1, x2, x3, x4, x5, x6, x7, x8, x9⟩, ⟨o0, o1, o2, o3⟩, d, rfl, hend, hx⟩
  have hE1 := heap_ext hE hx
  have hO1 := heap_ext hO hx
  have hx1 := hW.trans hx
  clear hE hO hL hx hW hl hlog
  simp only [Acc.cells, OutN.cells] at hend ⊢
  have e0 : w1.cell? ⟨w.heap.size + 1, 0, none⟩ = some (.int .i64 0) := by simp [World.cell?, hE1]
  have ef0 : w1.frozen? ⟨w.heap.size + 1, 0, none⟩ = false := by simp [World.frozen?, hE1]
  have e1 : w1.cell? ⟨w.heap.size + 1, 1, none⟩ = some (.int .i64 0) := by simp [World.cell?, hE1]
  have ef1 : w1.frozen? ⟨w.heap.size + 1, 1, none⟩ = false := by simp [World.frozen?, hE1]
  have e2 : w1.cell? ⟨w.heap.size + 1, 2, none⟩ = some (.int .u64 0) := by simp [World.cell?, hE1]
  have ef2 : w1.frozen? ⟨w.heap.size + 1, 2, none⟩ = false := by simp [World.frozen?, hE1]
  have e3 : w1.cell? ⟨w.heap.size + 1, 3, none⟩ = some (.int .u64 0) := by simp [World.cell?, hE1]
  have ef3 : w1.frozen? ⟨w.heap.size + 1, 3, none⟩ = false := by simp [World.frozen?, hE1]
  have e4 : w1.cell? ⟨w.heap.size + 1, 4, none⟩ = some (.slice none 0 0) := by simp [World.cell?, hE1]
  have ef4 : w1.frozen? ⟨w.heap.size + 1, 4, none⟩ = false := by simp [World.frozen?, hE1]
  have e5 : w1.cell? ⟨w.heap.size + 1, 5, none⟩ = some (.slice none 0 0) := by simp [World.cell?, hE1]
  have ef5 : w1.frozen? ⟨w.heap.size + 1, 5, none⟩ = false := by simp [World.frozen?, hE1]
  have d0 : w1.cell? ⟨w.heap.size + 1 + 1, 0, none⟩ = some (.int .i64 0) := by simp [World.cell?, hO1]
  have df0 : w1.frozen? ⟨w.heap.size + 1 + 1, 0, none⟩ = false := by simp [World.frozen?, hO1]
  have d1 : w1.cell? ⟨w.heap.size + 1 + 1, 1, none⟩ = some (.bool false) := by simp [World.cell?, hO1]
  have df1 : w1.frozen? ⟨w.heap.size + 1 + 1, 1, none⟩ = false := by simp [World.frozen?, hO1]
  have d2 : w1.cell? ⟨w.heap.size + 1 + 1, 2, none⟩ = some (.int .i64 0) := by simp [World.cell?, hO1]
  have df2 : w1.frozen? ⟨w.heap.size + 1 + 1, 2, none⟩ = false := by simp [World.frozen?, hO1]
  have d3 : w1.cell? ⟨w.heap.size + 1 + 1, 3, none⟩ = some (.int .u64 0) := by simp [World.cell?, hO1]
  have df3 : w1.frozen? ⟨w.heap.size + 1 + 1, 3, none⟩ = false := by simp [World.frozen?, hO1]
  have d4 : w1.cell? ⟨w.heap.size + 1 + 1, 4, none⟩ = some (.slice none 0 0) := by simp [World.cell?, hO1]
  have df4 : w1.frozen? ⟨w.heap.size + 1 + 1, 4, none⟩ = false := by simp [World.frozen?, hO1]
  clear hE1 hO1
  go_wp2
  refine bodyPost_ret (v := .tuple #[.agg #[.int .i64 x0, .int .i64 x1, .int .u64 x2, .int .u64 x3, .slice x4 x5 x6, .slice x7 x8 x9], .agg #[.int .i64 o0, .bool o1, .int .i64 o2, .int .u64 o3, .slice none 0 0], .bool d]) (by simp [results, Try.results54, go_sem, e0, e1, e2, e3, e4, e5, d0, d1, d2, d3, d4]) rfl ⟨hend.symm, ?_⟩
  exact setAll_ext (g := w.heap.size + 1 + 1) (vs := [.int .i64 o0, .bool o1, .int .i64 o2, .int .u64 o3, .slice none 0 0]) (i := 0) (setAll_ext (g := w.heap.size + 1) (vs := [.int .i64 x0, .int .i64 x1, .int .u64 x2, .int .u64 x3, .slice x4 x5 x6, .slice x7 x8 x9]) (i := 0) hx1 (by omega)) (by omega)
end Go.Proofs.Ytkdjmfaodojmfaa
