/- Proved: the law CellNexts (what follows a record stands at a place of its own, the head's first; all of them are words of the memory, and of a new one nought) returns true at every input and turns none of its arguments. No condition. -/
import Derived.Test.YthgcpfofdbdkpaaShown9
import Derived.Test.YthgcpfofdbdkpaaLift
import Derived.Test.YthgcpfofdbdkpaaAggs
import Derived.Deep.CutRange
namespace Go.Proofs.Ythgcpfofdbdkpaa
open Go.ChangeShapes Go.WideShapes Go.ChangeAt Go.RowKit

/-- the place of what follows a record -/
def nextN (t r : Nat) : Nat := if r = 0 then 0 else fieldN t r 0
theorem next_nat (t r : Nat) (ht : t ≤ 65) (hr : r ≤ 65536) (w : World) :
    Calls Try.prog 31 #[.int .i64 t, .int .i64 r] w fun e w' => e = .returned (.int .i64 (nextN t r : Nat)) ∧ w = w' :=
  (next_any t r (by omega) (by omega) (by omega) (by omega) w).mono fun _ _ ⟨he, hw⟩ => ⟨by rw [he]; congr 2; unfold nextF nextN fieldN; split <;> split <;> omega, hw⟩
theorem nextN_inj {t a b : Nat} : nextN t a = nextN t b ↔ a = b := by unfold nextN fieldN; split <;> split <;> omega
theorem nextN_zero {t a : Nat} : nextN t a = 0 ↔ a = 0 := by unfold nextN fieldN; split <;> omega
theorem newF_next {t c r : Nat} (h2 : r ≤ c) : newF t c c (nextN t r) = 0 := by
  unfold nextN
  split
  · unfold newF; rw [if_neg (by omega), if_neg (by omega)]
  · rw [newF_field (by omega) (by omega), if_neg (by omega)]
theorem nextN_lt {t c r : Nat} (h2 : r ≤ c) : nextN t r < memL t c := by unfold nextN fieldN memL; split <;> omega
set_option maxRecDepth 100000 in
set_option maxHeartbeats 4000000 in
theorem nexts_walk (tn cn rn sn : Nat) (ht : tn < 256) (hc : cn < 65536) (hr : rn < 65536) (hs : sn < 65536) (w : World) :
    Calls Try.prog 9 #[.agg #[.int .u8 tn, .int .u16 cn, .int .u16 rn, .int .u16 sn]] w fun e w' => e = .returned (.bool true) ∧ Ext w w' := by
  have hE : Ext w (w.alloc (.cells #[.int .u8 tn, .int .u16 cn, .int .u16 rn, .int .u16 sn] 64)) := (Below.refl _ w).alloc (Nat.le_refl _) _
  have hN : (1 : Int) + (tn : Int) % 64 = ((1 + tn % 64 : Nat) : Int) := by omega
  have hK : (1 : Int) + (cn : Int) % 300 = ((1 + cn % 300 : Nat) : Int) := by omega
  have hN1 : 1 ≤ 1 + tn % 64 ∧ 1 + tn % 64 ≤ 64 := by omega
  have hK1 : 1 ≤ 1 + cn % 300 ∧ 1 + cn % 300 ≤ 300 := by omega
  generalize 1 + tn % 64 = N at *
  generalize 1 + cn % 300 = K at *
  have hA : (rn : Int) % ((K : Int) + 1) = ((rn % (K + 1) : Nat) : Int) := by rw [Int.natCast_emod]; rfl
  have hB : (sn : Int) % ((K : Int) + 1) = ((sn % (K + 1) : Nat) : Int) := by rw [Int.natCast_emod]; rfl
  have hA1 : rn % (K + 1) ≤ K := by have := Nat.mod_lt rn (show 0 < K + 1 by omega); omega
  have hB1 : sn % (K + 1) ≤ K := by have := Nat.mod_lt sn (show 0 < K + 1 by omega); omega
  generalize rn % (K + 1) = X at *
  generalize sn % (K + 1) = Y at *
  obtain ⟨n1, n2⟩ := hN1
  obtain ⟨k1, k2⟩ := hK1
  go_enter Try.func9, Try.ntmps9
  go_wp2_with (first
    | (go_at_call 21; refine (shown9_any _).mono ?_; rintro e w1 ⟨rfl, hx1⟩; have c0 := hx1.cell (p := ⟨w.heap.size, 0, none⟩) (v := .int .u8 tn) (by simp [go_sem]); have c1 := hx1.cell (p := ⟨w.heap.size, 1, none⟩) (v := .int .u16 cn) (by simp [go_sem]); have c2 := hx1.cell (p := ⟨w.heap.size, 2, none⟩) (v := .int .u16 rn) (by simp [go_sem]); have c3 := hx1.cell (p := ⟨w.heap.size, 3, none⟩) (v := .int .u16 sn) (by simp [go_sem]); replace hE := hE.trans hx1; clear hx1))
  try rw [hA]
  try rw [hB]
  have HN := Lib.hid hN
  have HK := Lib.hid hK
  have HA := Lib.hid hA
  have HB := Lib.hid hB
  clear hN hK hA hB c0 c1 c2 c3
  refine (new_yes N K n1 (by omega) (by omega) _).mono ?_
  rintro e w2 ⟨ga, rfl, _, hrow, hx2⟩
  have ma := MemBox.new (t := N) (c := K) hrow
  have hw2 : Ext w2 (w2.alloc (.cells #[.int .i64 N, .int .i64 K, .slice (some ⟨ga, 0, none⟩) (memL N K) (memL N K)] 42)) := (Below.refl _ w2).alloc (Nat.le_refl _) _
  replace hE := (hE.trans hx2).trans hw2
  clear hx2 hw2 hrow
  go_upto_region 11 with (fail)
  generalize w2.alloc (.cells #[.int .i64 N, .int .i64 K, .slice (some ⟨ga, 0, none⟩) (memL N K) (memL N K)] 42) = W2 at *
  generalize w2.heap.size = ba at *
  have fX : ∀ W, Calls Try.prog 31 #[.int .i64 N, .int .i64 X] W fun e w' => e = .returned (.int .i64 (nextN N X : Nat)) ∧ W = w' := fun W => next_nat N X (by omega) (by omega) W
  have fY : ∀ W, Calls Try.prog 31 #[.int .i64 N, .int .i64 Y] W fun e w' => e = .returned (.int .i64 (nextN N Y : Nat)) ∧ W = w' := fun W => next_nat N Y (by omega) (by omega) W
  have lX : nextN N X < memL N K := nextN_lt hA1
  have hbx := ma.2.2.1
  have hcell := ma.2.2.2 _ lX
  rw [newF_next hA1] at hcell
  have hinj := @nextN_inj N X Y
  have hz := @nextN_zero N X
  have h0 : X ≠ 0 → nextN N X = fieldN N X 0 := fun h => by unfold nextN; rw [if_neg h]
  have ff : X ≠ 0 → ∀ W, Calls Try.prog 29 #[.int .i64 N, .int .i64 X, .int .i64 0] W fun e w' => e = .returned (.int .i64 (nextN N X : Nat)) ∧ W = w' := fun h W => by
    rw [h0 h]; exact field_nat N X 0 (by omega) (by omega) (by omega) (by omega) W
  clear ma h0
  generalize nextN N X = p at *
  generalize nextN N Y = q at *
  generalize memL N K = L at *
  have hcase : (((p : Int) == (q : Int)) = ((X : Int) == (Y : Int))) ∧ ((((p : Int) == 0) = true ∧ ((X : Int) == 0) = true) ∨ (((p : Int) == 0) = false ∧ ((X : Int) == 0) = false ∧ X ≠ 0)) := by
    refine ⟨by rw [Bool.eq_iff_iff]; simp; omega, ?_⟩
    by_cases h : X = 0
    · exact .inl ⟨by simp; omega, by simp; omega⟩
    · exact .inr ⟨by simp; omega, by simp; omega, h⟩
  clear hinj hz
  obtain ⟨hpq, hcase⟩ := hcase
  cases hXY : ((X : Int) == (Y : Int))
  all_goals
    rw [hXY] at hpq
    rcases hcase with ⟨hp0, hX0⟩ | ⟨hp0, hX0, hne⟩
    all_goals
      try (have ff' := ff hne; clear hne)
      clear ff
      go_wp2_with (first
        | (go_at_call 31; (first | (with_reducible refine (fX _).mono ?_) | (with_reducible refine (fY _).mono ?_)); rintro e w' ⟨rfl, rfl⟩)
        | (go_at_call 29; refine (ff' _).mono ?_; rintro e w' ⟨rfl, rfl⟩))
      go_ret
      exact ⟨rfl, hE⟩
set_option maxRecDepth 1000000 in
theorem open_nexts {H : Type} {enc : TypeId × Value → H} {w : World} {base : Nat} {b0 : Nat} {v : Value} {d : DataW H} {p : List MemPlace} (hv : Value.okWide Try.prog w .any b0 64 v) (h : DataW.Trod enc Try.prog w base (fun _ => true) true 64 v d p) :
    ∃ a b c e : Int, v = .agg #[.int .u8 a, .int .u16 b, .int .u16 c, .int .u16 e] ∧ (0 ≤ a ∧ a < 256) ∧ (0 ≤ b ∧ b < 65536) ∧ (0 ≤ c ∧ c < 65536) ∧ (0 ≤ e ∧ e < 65536) := by
  obtain ⟨l, xs, m, rfl, hl, rfl, _, _, hf⟩ := open_struct Try.underlying64 hv h
  rw [show Try.prog.cellsOf 64 = 4 by kernel_rfl] at hl
  match l, hl with
  | [x0, x1, x2, x3], _ =>
  obtain ⟨_, _, t0⟩ := hf 0 _ rfl
  obtain ⟨_, _, t1⟩ := hf 1 _ rfl
  obtain ⟨_, _, t2⟩ := hf 2 _ rfl
  obtain ⟨_, _, t3⟩ := hf 3 _ rfl
  obtain ⟨a, e0, _, w0⟩ := DataW.trod_int Try.underlying5 t0
  obtain ⟨b, e1, _, w1⟩ := DataW.trod_int Try.underlying43 t1
  obtain ⟨c, e2, _, w2⟩ := DataW.trod_int Try.underlying43 t2
  obtain ⟨e, e3, _, w3⟩ := DataW.trod_int Try.underlying43 t3
  simp [show Try.prog.cellsOf 5 = 1 by kernel_rfl, show Try.prog.cellsOf 43 = 1 by kernel_rfl] at e0 e1 e2 e3
  subst e0 e1 e2 e3
  exact ⟨a, b, c, e, rfl, wf_u8 w0, wf_u16 w1, wf_u16 w2, wf_u16 w3⟩
set_option maxRecDepth 100000 in
theorem CellNexts_lifted (os : Os) (started : os.Started) (H : Type) (enc : TypeId × Value → H) :
    ReturnsInHanded {} Try.checked os 9 .any (Rows.cellNextsSpec.pre6 enc Try.prog Try.f9 Rows.cellNextsRow.domain false) (Rows.cellNextsSpec.post enc Try.prog Try.f9 false true false false) := by
  refine law_row os started H enc Rows.cellNextsSpec rfl (fun ds h => by
    match ds, h with
    | [_], _ => rfl) (by kernel_rfl) Try.func9 rfl
    (by rw [Try.params9]; intro t ht; simp at ht; subst ht; exact ⟨by kernel_rfl, of_decide_eq_true (by kernel_rfl)⟩)
    (ChangeSpec.witness6 (enc := enc) (C := Try.checked) false ⟨#[], #[.agg #[.int .u8 0, .int .u16 0, .int .u16 0, .int .u16 0]], []⟩ 8 (by kernel_rfl) (by kernel_rfl) (by kernel_rfl) (by kernel_rfl)) ?_
  intro W base args ds ps hval hA hlt
  rw [Try.params9] at hA hval
  obtain ⟨v0, d0, rfl, rfl, h0⟩ := trodAll_one hA
  obtain ⟨a, b, c, e, rfl, h1, h2, h3, h4⟩ := open_nexts (hval 0 _ v0 rfl rfl) h0
  obtain ⟨tn, rfl⟩ := Int.eq_ofNat_of_zero_le h1.1
  obtain ⟨cn, rfl⟩ := Int.eq_ofNat_of_zero_le h2.1
  obtain ⟨rn, rfl⟩ := Int.eq_ofNat_of_zero_le h3.1
  obtain ⟨fn, rfl⟩ := Int.eq_ofNat_of_zero_le h4.1
  exact nexts_walk tn cn rn fn (by omega) (by omega) (by omega) (by omega) W
theorem CellNexts_holds : Rows.CellNextsSaid :=
  OpenClaim.holds_of_wide 9 Try.f9 rfl rfl rfl rfl rfl rfl rfl ⟨rfl, rfl, rfl, rfl, rfl⟩ rfl rfl rfl rfl rfl (by kernel_rfl) Try.func9 (by kernel_rfl)
    (of_decide_eq_true (by kernel_rfl)) (by unfold Func.isWrapper; rw [if_neg (of_decide_eq_false (by kernel_rfl))]; exact ⟨rfl, rfl⟩)
    (fun os started H enc _ => CellNexts_lifted os started H enc)
#print axioms CellNexts_holds
end Go.Proofs.Ythgcpfofdbdkpaa
