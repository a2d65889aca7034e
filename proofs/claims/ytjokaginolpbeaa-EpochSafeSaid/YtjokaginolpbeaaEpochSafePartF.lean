import Derived.Test.YtjokaginolpbeaaEpochSafePartE
import Derived.ScopeJumps
import Derived.Tactics
import Derived.Lib.Hide
import Derived.LoopTactic
import Derived.RangeFuncLeaves
import Derived.RangeFuncNested
import Derived.Test.YtjokaginolpbeaaEpochSafePartA
import Derived.RangeFuncBound
import Derived.RangeFuncCalls
import Derived.Shelf.Abstract
import Derived.Shelf.RegionOpen
import Derived.WalkKit
import Derived.OwnWalkIn
import Derived.TacticsInMore
import Derived.LoopNIn
import Derived.LoopIn
import Derived.Test.YtjokaginolpbeaaEpochSafePartB
namespace Go.Proofs.Ytjokaginolpbeaa
open Go.RowKit

/-! What a program is handed, in general: a function value of two captured places, and what stands for it (a log, or a world). -/
def doF (F : FuncId) (c0 c1 : Value) : Value := .func (.func F) #[] #[c0, c1]
/-- what a call of it leads to -/
def GP {σ : Type} (st : σ → Ask → Option (Int × σ)) (Inv : σ → World → Prop) (g : Nat) (s : σ) (x : Ask) (w : World) (val : Int → Value → Prop) (e : Ending) (w' : World) : Prop :=
  match st s x with
  | none => e = needP x.acc.cells ∧ ExtB g w w'
  | some (n, s') => (∃ v, e = .returned v ∧ val n v) ∧ U64 n ∧ Inv s' w' ∧ ExtB g w w'
structure DoOk {σ : Type} (st : σ → Ask → Option (Int × σ)) (F : FuncId) (c0 c1 : Value) (g : Nat) (Inv : σ → World → Prop) : Prop where
  ext : ∀ s w w', Inv s w → Ext w w' → Inv s w'
  call : ∀ (args : Array Value) (w : World), (callFunc F args).run Try.prog w = .ok (.enter F args) w
  run : ∀ s w (x : Ask), Inv s w → x.Ok → Calls Try.prog F #[.agg x.acc.cells, c0, c1] w (GP st Inv g s x w fun n v => ∃ (B : Option Addr) (q c : Nat) (f : Bool), v = .agg #[.int .u64 n, .slice B q c, .bool f])
section
variable {σ : Type} {st : σ → Ask → Option (Int × σ)} {F : FuncId} {c0 c1 : Value} {g : Nat} {Inv : σ → World → Prop}
theorem gload_nx (hd : DoOk st F c0 c1 g Inv) (i : Int) {s s' : σ} {n : Int} (hs : st s (askL i) = some (n, s')) (w : World) (hI : Inv s w) :
    Calls Try.prog 100 #[doF F c0 c1, .int .i64 i] w fun e w' => e = .returned (.int .u64 n) ∧ U64 n ∧ Inv s' w' ∧ ExtB g w w' := by
  refine pload_next F c0 c1 i n (fun w' => U64 n ∧ Inv s' w' ∧ ExtB g w w') w hd.call ((hd.run s w (askL i) hI (askL_ok _)).mono ?_)
  intro e w' h
  simp only [GP, hs] at h
  obtain ⟨⟨v, rfl, B, q, c, f, rfl⟩, h1, h2, h3⟩ := h
  exact ⟨B, q, c, f, rfl, h1, h2, h3⟩
theorem gload_st (hd : DoOk st F c0 c1 g Inv) (i : Int) {s : σ} (hs : st s (askL i) = none) (w : World) (hI : Inv s w) :
    Calls Try.prog 100 #[doF F c0 c1, .int .i64 i] w fun e w' => e = needP (askL i).acc.cells ∧ ExtB g w w' := by
  refine pload_stop F c0 c1 i _ (fun w' => ExtB g w w') w hd.call ((hd.run s w (askL i) hI (askL_ok _)).mono ?_)
  intro e w' h
  simp only [GP, hs] at h
  exact h
theorem gstore_nx (hd : DoOk st F c0 c1 g Inv) (i : Int) (a : Int) (ha : U64 a) {s s' : σ} {n : Int} (hs : st s (askS i a) = some (n, s')) (w : World) (hI : Inv s w) :
    Calls Try.prog 99 #[doF F c0 c1, .int .i64 i, .int .u64 a] w fun e w' => e = .returned (.tuple #[]) ∧ U64 n ∧ Inv s' w' ∧ ExtB g w w' := by
  refine pstore_next F c0 c1 i a n (fun w' => U64 n ∧ Inv s' w' ∧ ExtB g w w') w hd.call ((hd.run s w (askS i a) hI (askS_ok _ ha)).mono ?_)
  intro e w' h
  simp only [GP, hs] at h
  obtain ⟨⟨v, rfl, B, q, c, f, rfl⟩, h1, h2, h3⟩ := h
  exact ⟨B, q, c, f, rfl, h1, h2, h3⟩
theorem gstore_st (hd : DoOk st F c0 c1 g Inv) (i : Int) (a : Int) (ha : U64 a) {s : σ} (hs : st s (askS i a) = none) (w : World) (hI : Inv s w) :
    Calls Try.prog 99 #[doF F c0 c1, .int .i64 i, .int .u64 a] w fun e w' => e = needP (askS i a).acc.cells ∧ ExtB g w w' := by
  refine pstore_stop F c0 c1 i a _ (fun w' => ExtB g w w') w hd.call ((hd.run s w (askS i a) hI (askS_ok _ ha)).mono ?_)
  intro e w' h
  simp only [GP, hs] at h
  exact h
theorem gcas_nx (hd : DoOk st F c0 c1 g Inv) (i : Int) (a : Int) (b : Int) (ha : U64 a) (hb : U64 b) {s s' : σ} {n : Int} (hs : st s (askC i a b) = some (n, s')) (w : World) (hI : Inv s w) :
    Calls Try.prog 101 #[doF F c0 c1, .int .i64 i, .int .u64 a, .int .u64 b] w fun e w' => e = .returned (.bool (n == 1)) ∧ U64 n ∧ Inv s' w' ∧ ExtB g w w' := by
  refine pcas_next F c0 c1 i a b n (fun w' => U64 n ∧ Inv s' w' ∧ ExtB g w w') w hd.call ((hd.run s w (askC i a b) hI (askC_ok _ ha hb)).mono ?_)
  intro e w' h
  simp only [GP, hs] at h
  obtain ⟨⟨v, rfl, B, q, c, f, rfl⟩, h1, h2, h3⟩ := h
  exact ⟨B, q, c, f, rfl, h1, h2, h3⟩
theorem gcas_st (hd : DoOk st F c0 c1 g Inv) (i : Int) (a : Int) (b : Int) (ha : U64 a) (hb : U64 b) {s : σ} (hs : st s (askC i a b) = none) (w : World) (hI : Inv s w) :
    Calls Try.prog 101 #[doF F c0 c1, .int .i64 i, .int .u64 a, .int .u64 b] w fun e w' => e = needP (askC i a b).acc.cells ∧ ExtB g w w' := by
  refine pcas_stop F c0 c1 i a b _ (fun w' => ExtB g w w') w hd.call ((hd.run s w (askC i a b) hI (askC_ok _ ha hb)).mono ?_)
  intro e w' h
  simp only [GP, hs] at h
  exact h
theorem gswap_nx (hd : DoOk st F c0 c1 g Inv) (i : Int) (a : Int) (ha : U64 a) {s s' : σ} {n : Int} (hs : st s (askX i a) = some (n, s')) (w : World) (hI : Inv s w) :
    Calls Try.prog 103 #[doF F c0 c1, .int .i64 i, .int .u64 a] w fun e w' => e = .returned (.int .u64 n) ∧ U64 n ∧ Inv s' w' ∧ ExtB g w w' := by
  refine pswap_next F c0 c1 i a n (fun w' => U64 n ∧ Inv s' w' ∧ ExtB g w w') w hd.call ((hd.run s w (askX i a) hI (askX_ok _ ha)).mono ?_)
  intro e w' h
  simp only [GP, hs] at h
  obtain ⟨⟨v, rfl, B, q, c, f, rfl⟩, h1, h2, h3⟩ := h
  exact ⟨B, q, c, f, rfl, h1, h2, h3⟩
theorem gswap_st (hd : DoOk st F c0 c1 g Inv) (i : Int) (a : Int) (ha : U64 a) {s : σ} (hs : st s (askX i a) = none) (w : World) (hI : Inv s w) :
    Calls Try.prog 103 #[doF F c0 c1, .int .i64 i, .int .u64 a] w fun e w' => e = needP (askX i a).acc.cells ∧ ExtB g w w' := by
  refine pswap_stop F c0 c1 i a _ (fun w' => ExtB g w w') w hd.call ((hd.run s w (askX i a) hI (askX_ok _ ha)).mono ?_)
  intro e w' h
  simp only [GP, hs] at h
  exact h
end
/-- what a part of a program does -/
def RunP {σ α : Type} (r : PR σ α) (Inv : σ → World → Prop) (g : Nat) (w : World) (v : α → Value) (e : Ending) (w' : World) : Prop :=
  match r with
  | .stop x => e = needP x.acc.cells ∧ ExtB g w w'
  | .ret a s => e = .returned (v a) ∧ Inv s w' ∧ ExtB g w w'
  | .out => False
/-! A loop whose measure stands in no place. -/
theorem least_ex {p : Nat → Prop} (h : ∃ n, p n) : ∃ n, p n ∧ ∀ m, p m → n ≤ m := by
  obtain ⟨n, hn⟩ := h
  induction n using Nat.strongRecOn with
  | _ n ih =>
    by_cases hx : ∃ m, m < n ∧ p m
    · obtain ⟨m, hm, hp⟩ := hx; exact ih m hm hp
    · exact ⟨n, hn, fun m hm => Nat.le_of_not_lt fun hl => hx ⟨m, hl, hm⟩⟩
open Classical in
noncomputable def leastN (p : Nat → Prop) : Nat := if h : ∃ n, p n then (least_ex h).choose else 0
theorem leastN_spec {p : Nat → Prop} (h : ∃ n, p n) : p (leastN p) := by
  unfold leastN; rw [dif_pos h]; exact (least_ex h).choose_spec.1
theorem leastN_le {p : Nat → Prop} {n : Nat} (h : p n) : leastN p ≤ n := by
  have h1 : ∃ n, p n := ⟨n, h⟩
  unfold leastN; rw [dif_pos h1]; exact (least_ex h1).choose_spec.2 n h
theorem ghost_least {p : Nat → Prop} (h : ∃ n, p n) : ∃ n, p n ∧ n = leastN p := ⟨leastN p, leastN_spec h, rfl⟩
theorem wp_scope_ghost {P : Program} {a : Act} {w : World} {Q : Exit → Act → World → Prop} {c rest : Code} (l : Nat) (J : Nat → Act → World → Prop) (hf : findLabel c l = some rest)
    (first : c.wp P (Exit.jump l (fun a w => ∃ n, J n a w) Q) a w)
    (pass : ∀ n a w, J n a w → rest.wp P (Exit.jump l (fun a' w' => ∃ m, m < n ∧ J m a' w') Q) a w) : (Code.scope c).wp P Q a w := by
  refine wp_scope_jumps l (fun a w => ∃ n, J n a w) (fun a w => leastN fun n => J n a w) hf first ?_
  intro a w hJ
  refine wp_mono (pass _ a w (leastN_spec hJ)) ?_
  intro e a' w' h
  cases e with
  | goto l' =>
    obtain ⟨h1, m, hm, hJm⟩ := h
    exact ⟨h1, ⟨m, hJm⟩, Nat.lt_of_le_of_lt (leastN_le (p := fun n => J n a' w') hJm) hm⟩
  | normal => exact h
  | exit => exact h
  | ret => exact h
  | panic => exact h
  | outgrown => exact h
end Go.Proofs.Ytjokaginolpbeaa

namespace Go.Proofs.Ytjokaginolpbeaa
open Go.RowKit

/-! pool.Pop, pool.Push of whatever a program is handed. -/
section
variable {σ : Type} {st : σ → Ask → Option (Int × σ)} {F : FuncId} {c0 c1 : Value} {g : Nat} {Inv : σ → World → Prop}
set_option maxRecDepth 100000 in
set_option maxHeartbeats 4000000 in
theorem gpop (hd : DoOk st F c0 c1 g Inv) (t : Int) (ht1 : 0 ≤ t) (ht2 : t ≤ 64) (f : Nat) (s : σ) (w : World) (hI : Inv s w) (hr : (popT t f).run st s ≠ .out) :
    Calls Try.prog 123 #[doF F c0 c1, .int .i64 t] w (RunP ((popT t f).run st s) Inv g w (.int .i64)) := by
  generalize hP : (popT t f).run st s = R at hr
  go_enter Try.func123, Try.ntmps123
  go_wp2
  refine wp_scope_ghost 0 (fun n a' w' => ∃ (u5 u6 u7 u8 u9 u10 u11 u12 u13 u14 u15 u16 u17 u18 u19 u20 u21 u22 u23 u24 u25 u26 u27 u28 : Value) (s' : σ), a' = { tmps := #[doF F c0 c1, .int .i64 t, undef, undef, .int .i64 0, u5, u6, u7, u8, u9, u10, u11, u12, u13, u14, u15, u16, u17, u18, u19, u20, u21, u22, u23, u24, u25, u26, u27, u28], defers := [] } ∧ Inv s' w' ∧ (popT t n).run st s' = R ∧ ExtB g w w') rfl ?_ ?_
  · have hB : ExtB g w w := ExtB.refl _ _
    rcases f with _ | n
    · exact absurd hP.symm hr
    simp only [popT, PT.run] at hP
    go_wp2
    go_step3
    cases h1 : st s (askL 1) with
    | none =>
      simp only [h1] at hP
      go_wp2_with fail
      refine (gload_st hd 1 h1 _ hI).mono ?_
      rintro e wz ⟨rfl, hx⟩
      refine ⟨rfl, ?_⟩
      rw [← hP]
      exact ⟨rfl, hB.trans hx⟩
    | some q =>
      obtain ⟨n1, s1⟩ := q
      simp only [h1] at hP
      go_wp2_with fail
      refine (gload_nx hd 1 h1 _ hI).mono ?_
      rintro e w1 ⟨rfl, hU1, hI1, hx1⟩
      replace hB := hB.trans hx1
      go_wp2_with fail
      refine (first_any _ hU1 _).mono ?_
      rintro e w' ⟨rfl, rfl⟩
      obtain ⟨hf0, hf1⟩ := firstF_rng hU1
      by_cases h0 : firstF n1 = 0
      · simp only [if_pos h0, PT.run] at hP
        rw [h0]
        go_wp2
        (first | (simp only [Exit.jump]; go_ret) | (rw [Exit.noGoto_ret]; go_ret) | go_ret)
        rw [← hP]
        exact ⟨rfl, hI1, hB⟩
      · simp only [if_neg h0, PT.run] at hP
        go_wp2_with fail
        refine (fieldB_any t _ ht1 ht2 hf0 (by omega) _).mono ?_
        rintro e w' ⟨rfl, rfl⟩
        cases h2 : st s1 (askL (linkI t (firstF n1))) with
        | none =>
          simp only [h2] at hP
          go_wp2_with fail
          refine (gload_st hd _ h2 _ hI1).mono ?_
          rintro e wz ⟨rfl, hx⟩
          refine ⟨rfl, ?_⟩
          rw [← hP]
          exact ⟨rfl, hB.trans hx⟩
        | some q =>
          obtain ⟨n2, s2⟩ := q
          simp only [h2] at hP
          go_wp2_with fail
          refine (gload_nx hd _ h2 _ hI1).mono ?_
          rintro e w2 ⟨rfl, hU2, hI2, hx2⟩
          replace hB := hB.trans hx2
          go_wp2_with fail
          refine (first_any _ hU2 _).mono ?_
          rintro e w' ⟨rfl, rfl⟩
          go_wp2_with fail
          refine (tag_any _ _).mono ?_
          rintro e w' ⟨rfl, rfl⟩
          have hwr : IntKind.u64.wrap (tagF n1 + 1) = (tagF n1 + 1) % 18446744073709551616 := IntKind.wrap_u64 _
          have htn : topF (firstF n2) ((tagF n1 + 1) % 18446744073709551616) = topN (firstF n2) n1 := rfl
          generalize (tagF n1 + 1) % 18446744073709551616 = tg at *
          go_wp2_with fail
          refine (top_any _ _ _).mono ?_
          rintro e w' ⟨rfl, rfl⟩
          rw [htn]
          cases h3 : st s2 (askC 1 n1 (topN (firstF n2) n1)) with
          | none =>
            simp only [h3] at hP
            go_wp2_with fail
            refine (gcas_st hd 1 n1 (topN (firstF n2) n1) hU1 (topN_rng _ _) h3 _ hI2).mono ?_
            rintro e wz ⟨rfl, hx⟩
            refine ⟨rfl, ?_⟩
            rw [← hP]
            exact ⟨rfl, hB.trans hx⟩
          | some q =>
            obtain ⟨n3, s3⟩ := q
            simp only [h3] at hP
            go_wp2_with fail
            refine (gcas_nx hd 1 n1 (topN (firstF n2) n1) hU1 (topN_rng _ _) h3 _ hI2).mono ?_
            rintro e w3 ⟨rfl, hU3, hI3, hx3⟩
            have hBk := hB.trans hx3
            by_cases h1 : n3 = 1
            · simp only [if_pos h1, PT.run] at hP
              have h1' : (n3 == 1) = true := by simp [h1]
              rw [h1']
              go_wp2
              (first | (simp only [Exit.jump]; go_ret) | (rw [Exit.noGoto_ret]; go_ret) | go_ret)
              rw [← hP]
              exact ⟨rfl, hI3, hBk⟩
            · simp only [if_neg h1] at hP
              have h1' : (n3 == 1) = false := by simp [h1]
              rw [h1']
              go_wp2
              go_step3
              refine ⟨rfl, n, ⟨_, _, _, _, _, _, _, _, _, _, _, _, _, _, _, _, _, _, _, _, _, _, _, _, s3, rfl, hI3, hP, hBk⟩⟩
  · rintro n a' w' ⟨u5, u6, u7, u8, u9, u10, u11, u12, u13, u14, u15, u16, u17, u18, u19, u20, u21, u22, u23, u24, u25, u26, u27, u28, s, rfl, hI, hP, hB⟩
    rcases n with _ | n
    · exact absurd hP.symm hr
    simp only [popT, PT.run] at hP
    cases h1 : st s (askL 1) with
    | none =>
      simp only [h1] at hP
      go_wp2_with fail
      refine (gload_st hd 1 h1 _ hI).mono ?_
      rintro e wz ⟨rfl, hx⟩
      refine ⟨rfl, ?_⟩
      rw [← hP]
      exact ⟨rfl, hB.trans hx⟩
    | some q =>
      obtain ⟨n1, s1⟩ := q
      simp only [h1] at hP
      go_wp2_with fail
      refine (gload_nx hd 1 h1 _ hI).mono ?_
      rintro e w1 ⟨rfl, hU1, hI1, hx1⟩
      replace hB := hB.trans hx1
      go_wp2_with fail
      refine (first_any _ hU1 _).mono ?_
      rintro e w' ⟨rfl, rfl⟩
      obtain ⟨hf0, hf1⟩ := firstF_rng hU1
      by_cases h0 : firstF n1 = 0
      · simp only [if_pos h0, PT.run] at hP
        rw [h0]
        go_wp2
        (first | (simp only [Exit.jump]; go_ret) | (rw [Exit.noGoto_ret]; go_ret) | go_ret)
        rw [← hP]
        exact ⟨rfl, hI1, hB⟩
      · simp only [if_neg h0, PT.run] at hP
        go_wp2_with fail
        refine (fieldB_any t _ ht1 ht2 hf0 (by omega) _).mono ?_
        rintro e w' ⟨rfl, rfl⟩
        cases h2 : st s1 (askL (linkI t (firstF n1))) with
        | none =>
          simp only [h2] at hP
          go_wp2_with fail
          refine (gload_st hd _ h2 _ hI1).mono ?_
          rintro e wz ⟨rfl, hx⟩
          refine ⟨rfl, ?_⟩
          rw [← hP]
          exact ⟨rfl, hB.trans hx⟩
        | some q =>
          obtain ⟨n2, s2⟩ := q
          simp only [h2] at hP
          go_wp2_with fail
          refine (gload_nx hd _ h2 _ hI1).mono ?_
          rintro e w2 ⟨rfl, hU2, hI2, hx2⟩
          replace hB := hB.trans hx2
          go_wp2_with fail
          refine (first_any _ hU2 _).mono ?_
          rintro e w' ⟨rfl, rfl⟩
          go_wp2_with fail
          refine (tag_any _ _).mono ?_
          rintro e w' ⟨rfl, rfl⟩
          have hwr : IntKind.u64.wrap (tagF n1 + 1) = (tagF n1 + 1) % 18446744073709551616 := IntKind.wrap_u64 _
          have htn : topF (firstF n2) ((tagF n1 + 1) % 18446744073709551616) = topN (firstF n2) n1 := rfl
          generalize (tagF n1 + 1) % 18446744073709551616 = tg at *
          go_wp2_with fail
          refine (top_any _ _ _).mono ?_
          rintro e w' ⟨rfl, rfl⟩
          rw [htn]
          cases h3 : st s2 (askC 1 n1 (topN (firstF n2) n1)) with
          | none =>
            simp only [h3] at hP
            go_wp2_with fail
            refine (gcas_st hd 1 n1 (topN (firstF n2) n1) hU1 (topN_rng _ _) h3 _ hI2).mono ?_
            rintro e wz ⟨rfl, hx⟩
            refine ⟨rfl, ?_⟩
            rw [← hP]
            exact ⟨rfl, hB.trans hx⟩
          | some q =>
            obtain ⟨n3, s3⟩ := q
            simp only [h3] at hP
            go_wp2_with fail
            refine (gcas_nx hd 1 n1 (topN (firstF n2) n1) hU1 (topN_rng _ _) h3 _ hI2).mono ?_
            rintro e w3 ⟨rfl, hU3, hI3, hx3⟩
            have hBk := hB.trans hx3
            by_cases h1 : n3 = 1
            · simp only [if_pos h1, PT.run] at hP
              have h1' : (n3 == 1) = true := by simp [h1]
              rw [h1']
              go_wp2
              (first | (simp only [Exit.jump]; go_ret) | (rw [Exit.noGoto_ret]; go_ret) | go_ret)
              rw [← hP]
              exact ⟨rfl, hI3, hBk⟩
            · simp only [if_neg h1] at hP
              have h1' : (n3 == 1) = false := by simp [h1]
              rw [h1']
              go_wp2
              go_step3
              refine ⟨rfl, n, Nat.lt_succ_self n, ⟨_, _, _, _, _, _, _, _, _, _, _, _, _, _, _, _, _, _, _, _, _, _, _, _, s3, rfl, hI3, hP, hBk⟩⟩
set_option maxRecDepth 100000 in
set_option maxHeartbeats 4000000 in
theorem gpush (hd : DoOk st F c0 c1 g Inv) (t r : Int) (ht1 : 0 ≤ t) (ht2 : t ≤ 64) (hr1 : 0 ≤ r) (hr2 : r ≤ 1048576) (f : Nat) (s : σ) (w : World) (hI : Inv s w) (hr : (pushT t r f).run st s ≠ .out) :
    Calls Try.prog 126 #[doF F c0 c1, .int .i64 t, .int .i64 r] w (RunP ((pushT t r f).run st s) Inv g w (fun _ => .tuple #[])) := by
  generalize hP : (pushT t r f).run st s = R at hr
  go_enter Try.func126, Try.ntmps126
  simp only [doF]
  go_wp2
  refine wp_scope_ghost 0 (fun n a' w' => ∃ (u6 u7 u8 u9 u10 u11 u12 u13 u14 u15 u16 u17 u18 u19 u20 u21 u22 u23 u24 u25 : Value) (s' : σ), a' = { tmps := #[doF F c0 c1, .int .i64 t, .int .i64 r, undef, undef, undef, u6, u7, u8, u9, u10, u11, u12, u13, u14, u15, u16, u17, u18, u19, u20, u21, u22, u23, u24, u25], defers := [] } ∧ Inv s' w' ∧ (pushT t r n).run st s' = R ∧ ExtB g w w') rfl ?_ ?_
  · have hB : ExtB g w w := ExtB.refl _ _
    rcases f with _ | n
    · exact absurd hP.symm hr
    simp only [pushT, PT.run] at hP
    go_wp2
    go_step3
    cases h1 : st s (askL 1) with
    | none =>
      simp only [h1] at hP
      go_wp2_with fail
      refine (gload_st hd 1 h1 _ hI).mono ?_
      rintro e wz ⟨rfl, hx⟩
      refine ⟨rfl, ?_⟩
      rw [← hP]
      exact ⟨rfl, hB.trans hx⟩
    | some q =>
      obtain ⟨n1, s1⟩ := q
      simp only [h1] at hP
      go_wp2_with fail
      refine (gload_nx hd 1 h1 _ hI).mono ?_
      rintro e w1 ⟨rfl, hU1, hI1, hx1⟩
      replace hB := hB.trans hx1
      go_wp2_with fail
      refine (fieldB_any t r ht1 ht2 hr1 hr2 _).mono ?_
      rintro e w' ⟨rfl, rfl⟩
      go_wp2_with fail
      refine (first_any _ hU1 _).mono ?_
      rintro e w' ⟨rfl, rfl⟩
      obtain ⟨hf0, hf1⟩ := firstF_rng hU1
      have hfu : U64 (firstF n1) := by unfold U64; omega
      have hfw : IntKind.u64.wrap (firstF n1) = firstF n1 := by rw [IntKind.wrap_u64]; omega
      cases h2 : st s1 (askS (linkI t r) (firstF n1)) with
      | none =>
        simp only [h2] at hP
        go_wp2_with fail
        refine (gstore_st hd _ _ hfu h2 _ hI1).mono ?_
        rintro e wz ⟨rfl, hx⟩
        refine ⟨rfl, ?_⟩
        rw [← hP]
        exact ⟨rfl, hB.trans hx⟩
      | some q =>
        obtain ⟨n2, s2⟩ := q
        simp only [h2] at hP
        go_wp2_with fail
        refine (gstore_nx hd _ _ hfu h2 _ hI1).mono ?_
        rintro e w2 ⟨rfl, hU2, hI2, hx2⟩
        replace hB := hB.trans hx2
        go_wp2_with fail
        refine (tag_any _ _).mono ?_
        rintro e w' ⟨rfl, rfl⟩
        have hwr : IntKind.u64.wrap (tagF n1 + 1) = (tagF n1 + 1) % 18446744073709551616 := IntKind.wrap_u64 _
        have htn : topF r ((tagF n1 + 1) % 18446744073709551616) = topN r n1 := rfl
        generalize (tagF n1 + 1) % 18446744073709551616 = tg at *
        go_wp2_with fail
        refine (top_any _ _ _).mono ?_
        rintro e w' ⟨rfl, rfl⟩
        rw [htn]
        cases h3 : st s2 (askC 1 n1 (topN r n1)) with
        | none =>
          simp only [h3] at hP
          go_wp2_with fail
          refine (gcas_st hd 1 n1 (topN r n1) hU1 (topN_rng _ _) h3 _ hI2).mono ?_
          rintro e wz ⟨rfl, hx⟩
          refine ⟨rfl, ?_⟩
          rw [← hP]
          exact ⟨rfl, hB.trans hx⟩
        | some q =>
          obtain ⟨n3, s3⟩ := q
          simp only [h3] at hP
          go_wp2_with fail
          refine (gcas_nx hd 1 n1 (topN r n1) hU1 (topN_rng _ _) h3 _ hI2).mono ?_
          rintro e w3 ⟨rfl, hU3, hI3, hx3⟩
          have hBk := hB.trans hx3
          by_cases h1 : n3 = 1
          · simp only [if_pos h1, PT.run] at hP
            have h1' : (n3 == 1) = true := by simp [h1]
            rw [h1']
            go_wp2
            simp only [Exit.jump]; refine bodyPost_end (v := .tuple #[]) (by simp [results, Try.results126, go_sem]) rfl ?_
            rw [← hP]
            exact ⟨rfl, hI3, hBk⟩
          · simp only [if_neg h1] at hP
            have h1' : (n3 == 1) = false := by simp [h1]
            rw [h1']
            go_wp2
            go_step3
            refine ⟨rfl, n, ⟨_, _, _, _, _, _, _, _, _, _, _, _, _, _, _, _, _, _, _, _, s3, rfl, hI3, hP, hBk⟩⟩
  · rintro n a' w' ⟨u6, u7, u8, u9, u10, u11, u12, u13, u14, u15, u16, u17, u18, u19, u20, u21, u22, u23, u24, u25, s, rfl, hI, hP, hB⟩
    rcases n with _ | n
    · exact absurd hP.symm hr
    simp only [pushT, PT.run] at hP
    cases h1 : st s (askL 1) with
    | none =>
      simp only [h1] at hP
      go_wp2_with fail
      refine (gload_st hd 1 h1 _ hI).mono ?_
      rintro e wz ⟨rfl, hx⟩
      refine ⟨rfl, ?_⟩
      rw [← hP]
      exact ⟨rfl, hB.trans hx⟩
    | some q =>
      obtain ⟨n1, s1⟩ := q
      simp only [h1] at hP
      go_wp2_with fail
      refine (gload_nx hd 1 h1 _ hI).mono ?_
      rintro e w1 ⟨rfl, hU1, hI1, hx1⟩
      replace hB := hB.trans hx1
      go_wp2_with fail
      refine (fieldB_any t r ht1 ht2 hr1 hr2 _).mono ?_
      rintro e w' ⟨rfl, rfl⟩
      go_wp2_with fail
      refine (first_any _ hU1 _).mono ?_
      rintro e w' ⟨rfl, rfl⟩
      obtain ⟨hf0, hf1⟩ := firstF_rng hU1
      have hfu : U64 (firstF n1) := by unfold U64; omega
      have hfw : IntKind.u64.wrap (firstF n1) = firstF n1 := by rw [IntKind.wrap_u64]; omega
      cases h2 : st s1 (askS (linkI t r) (firstF n1)) with
      | none =>
        simp only [h2] at hP
        go_wp2_with fail
        refine (gstore_st hd _ _ hfu h2 _ hI1).mono ?_
        rintro e wz ⟨rfl, hx⟩
        refine ⟨rfl, ?_⟩
        rw [← hP]
        exact ⟨rfl, hB.trans hx⟩
      | some q =>
        obtain ⟨n2, s2⟩ := q
        simp only [h2] at hP
        go_wp2_with fail
        refine (gstore_nx hd _ _ hfu h2 _ hI1).mono ?_
        rintro e w2 ⟨rfl, hU2, hI2, hx2⟩
        replace hB := hB.trans hx2
        go_wp2_with fail
        refine (tag_any _ _).mono ?_
        rintro e w' ⟨rfl, rfl⟩
        have hwr : IntKind.u64.wrap (tagF n1 + 1) = (tagF n1 + 1) % 18446744073709551616 := IntKind.wrap_u64 _
        have htn : topF r ((tagF n1 + 1) % 18446744073709551616) = topN r n1 := rfl
        generalize (tagF n1 + 1) % 18446744073709551616 = tg at *
        go_wp2_with fail
        refine (top_any _ _ _).mono ?_
        rintro e w' ⟨rfl, rfl⟩
        rw [htn]
        cases h3 : st s2 (askC 1 n1 (topN r n1)) with
        | none =>
          simp only [h3] at hP
          go_wp2_with fail
          refine (gcas_st hd 1 n1 (topN r n1) hU1 (topN_rng _ _) h3 _ hI2).mono ?_
          rintro e wz ⟨rfl, hx⟩
          refine ⟨rfl, ?_⟩
          rw [← hP]
          exact ⟨rfl, hB.trans hx⟩
        | some q =>
          obtain ⟨n3, s3⟩ := q
          simp only [h3] at hP
          go_wp2_with fail
          refine (gcas_nx hd 1 n1 (topN r n1) hU1 (topN_rng _ _) h3 _ hI2).mono ?_
          rintro e w3 ⟨rfl, hU3, hI3, hx3⟩
          have hBk := hB.trans hx3
          by_cases h1 : n3 = 1
          · simp only [if_pos h1, PT.run] at hP
            have h1' : (n3 == 1) = true := by simp [h1]
            rw [h1']
            go_wp2
            simp only [Exit.jump]; refine bodyPost_end (v := .tuple #[]) (by simp [results, Try.results126, go_sem]) rfl ?_
            rw [← hP]
            exact ⟨rfl, hI3, hBk⟩
          · simp only [if_neg h1] at hP
            have h1' : (n3 == 1) = false := by simp [h1]
            rw [h1']
            go_wp2
            go_step3
            refine ⟨rfl, n, Nat.lt_succ_self n, ⟨_, _, _, _, _, _, _, _, _, _, _, _, _, _, _, _, _, _, _, _, s3, rfl, hI3, hP, hBk⟩⟩
end
end Go.Proofs.Ytjokaginolpbeaa

namespace Go.Proofs.Ytjokaginolpbeaa
open Go.RowKit

/-! epoch.Pin, Unpin, Retire of whatever a program is handed. -/
theorem limboX_any (e : Int) (h : U64 e) (w : World) : Calls Try.prog 124 #[.int .u64 e] w fun r w' => r = .returned (.int .i64 (limboI e)) ∧ w = w' := by
  have h1 := h.1
  have h2 := h.2
  have e1 : Int.tmod e 3 = e % 3 := by rw [Int.tmod_eq_emod_of_nonneg h1]
  have e2 : IntKind.u64.wrap (e % 3) = e % 3 := by rw [IntKind.wrap_u64]; omega
  have e3 : IntKind.i64.wrap (e % 3) = e % 3 := by rw [IntKind.wrap_i64]; omega
  have e4 : IntKind.i64.wrap (4 + e % 3) = 4 + e % 3 := by rw [IntKind.wrap_i64]; omega
  have e5 : limboI e = 4 + e % 3 := rfl
  generalize limboI e = L at *
  go_enter Try.func124, Try.ntmps124
  go_wp2
  go_ret
  exact ⟨by rw [e5]; rfl, rfl⟩
theorem cpin_any (i : Int) (h1 : -1 ≤ i) (h2 : i ≤ 100000) (w : World) : Calls Try.prog 63 #[.int .i64 i] w fun r w' => r = .returned (.int .i64 (8 + i)) ∧ w = w' := by
  have e4 : IntKind.i64.wrap (8 + i) = 8 + i := by rw [IntKind.wrap_i64]; omega
  go_enter Try.func63, Try.ntmps63
  go_wp2
  go_ret
  exact ⟨rfl, rfl⟩
section
variable {σ : Type} {st : σ → Ask → Option (Int × σ)} {F : FuncId} {c0 c1 : Value} {g : Nat} {Inv : σ → World → Prop}
set_option maxRecDepth 100000 in
set_option maxHeartbeats 4000000 in
theorem gpin (hd : DoOk st F c0 c1 g Inv) (me : Int) (h1 : 0 ≤ me) (h2 : me ≤ 64) (s : σ) (w : World) (hI : Inv s w) :
    Calls Try.prog 27 #[doF F c0 c1, .int .i64 me] w (RunP ((pinT me).run st s) Inv g w (fun _ => .tuple #[])) := by
  generalize hP : (pinT me).run st s = R
  simp only [pinT, PT.run] at hP
  have hB : ExtB g w w := ExtB.refl _ _
  go_enter Try.func27, Try.ntmps27
  simp only [doF]
  go_wp2_with fail
  refine (cpin_any me (by omega) (by omega) _).mono ?_
  rintro e w' ⟨rfl, rfl⟩
  cases h1 : st s (askL 3) with
  | none =>
    simp only [h1] at hP
    go_wp2_with fail
    refine (gload_st hd 3 h1 _ hI).mono ?_
    rintro e wz ⟨rfl, hx⟩
    refine ⟨rfl, ?_⟩
    rw [← hP]
    exact ⟨rfl, hB.trans hx⟩
  | some q =>
    obtain ⟨n1, s1⟩ := q
    simp only [h1] at hP
    go_wp2_with fail
    refine (gload_nx hd 3 h1 _ hI).mono ?_
    rintro e w1 ⟨rfl, hU1, hI1, hx1⟩
    replace hB := hB.trans hx1
    have hwr : IntKind.u64.wrap (n1 + 1) = incW n1 := IntKind.wrap_u64 _
    have hiu := incW_u n1
    generalize incW n1 = n1' at *
    cases h2 : st s1 (askS (8 + me) n1') with
    | none =>
      simp only [h2] at hP
      go_wp2_with fail
      refine (gstore_st hd _ _ hiu h2 _ hI1).mono ?_
      rintro e wz ⟨rfl, hx⟩
      refine ⟨rfl, ?_⟩
      rw [← hP]
      exact ⟨rfl, hB.trans hx⟩
    | some q =>
      obtain ⟨n2, s2⟩ := q
      simp only [h2] at hP
      go_wp2_with fail
      refine (gstore_nx hd _ _ hiu h2 _ hI1).mono ?_
      rintro e w2 ⟨rfl, hU2, hI2, hx2⟩
      go_wp2
      refine bodyPost_end (v := .tuple #[]) (by simp [results, Try.results27, go_sem]) rfl ?_
      rw [← hP]
      exact ⟨rfl, hI2, hB.trans hx2⟩
set_option maxRecDepth 100000 in
set_option maxHeartbeats 4000000 in
theorem gunpin (hd : DoOk st F c0 c1 g Inv) (me : Int) (h1 : 0 ≤ me) (h2 : me ≤ 64) (s : σ) (w : World) (hI : Inv s w) :
    Calls Try.prog 28 #[doF F c0 c1, .int .i64 me] w (RunP ((unpinT me).run st s) Inv g w (fun _ => .tuple #[])) := by
  generalize hP : (unpinT me).run st s = R
  simp only [unpinT, PT.run] at hP
  have hB : ExtB g w w := ExtB.refl _ _
  go_enter Try.func28, Try.ntmps28
  simp only [doF]
  go_wp2_with fail
  refine (cpin_any me (by omega) (by omega) _).mono ?_
  rintro e w' ⟨rfl, rfl⟩
  cases h1 : st s (askS (8 + me) 0) with
  | none =>
    simp only [h1] at hP
    go_wp2_with fail
    refine (gstore_st hd _ _ u64_zero h1 _ hI).mono ?_
    rintro e wz ⟨rfl, hx⟩
    refine ⟨rfl, ?_⟩
    rw [← hP]
    exact ⟨rfl, hB.trans hx⟩
  | some q =>
    obtain ⟨n1, s1⟩ := q
    simp only [h1] at hP
    go_wp2_with fail
    refine (gstore_nx hd _ _ u64_zero h1 _ hI).mono ?_
    rintro e w1 ⟨rfl, hU1, hI1, hx1⟩
    go_wp2
    refine bodyPost_end (v := .tuple #[]) (by simp [results, Try.results28, go_sem]) rfl ?_
    rw [← hP]
    exact ⟨rfl, hI1, hB.trans hx1⟩
def RetJ (st : σ → Ask → Option (Int × σ)) (Inv : σ → World → Prop) (g : Nat) (w : World) (t r L : Int) (R : PR σ Int) (n : Nat) (dv : Value) (wr : World) : Prop :=
  (∃ s', n = 0 ∧ dv = .bool true ∧ Inv s' wr ∧ ExtB g w wr ∧ PR.ret 0 s' = R) ∨ (∃ s' k, n = k + 1 ∧ dv = .bool false ∧ Inv s' wr ∧ ExtB g w wr ∧ (retireL t r L k).run st s' = R)
set_option maxRecDepth 100000 in
set_option maxHeartbeats 4000000 in
theorem gretire (hd : DoOk st F c0 c1 g Inv) (t r : Int) (ht1 : 0 ≤ t) (ht2 : t ≤ 64) (hr1 : 0 ≤ r) (hr2 : r ≤ 1048576) (f : Nat) (s : σ) (w : World) (hI : Inv s w) (hr : (retireT t r f).run st s ≠ .out) :
    Calls Try.prog 30 #[doF F c0 c1, .int .i64 t, .int .i64 r] w (RunP ((retireT t r f).run st s) Inv g w (fun _ => .tuple #[])) := by
  generalize hP : (retireT t r f).run st s = R at hr
  simp only [retireT, PT.run] at hP
  have hru : U64 r := by unfold U64; omega
  have hrw : IntKind.u64.wrap r = r := by rw [IntKind.wrap_u64]; omega
  have hB : ExtB g w w := ExtB.refl _ _
  go_enter Try.func30, Try.ntmps30
  simp only [doF]
  cases h1 : st s (askL 3) with
  | none =>
    simp only [h1] at hP
    go_wp2_with fail
    refine (gload_st hd 3 h1 _ hI).mono ?_
    rintro e wz ⟨rfl, hx⟩
    refine ⟨rfl, ?_⟩
    rw [← hP]
    exact ⟨rfl, hB.trans hx⟩
  | some q =>
    obtain ⟨n1, s1⟩ := q
    simp only [h1] at hP
    go_wp2_with fail
    refine (gload_nx hd 3 h1 _ hI).mono ?_
    rintro e w1 ⟨rfl, hU1, hI1, hx1⟩
    replace hB := hB.trans hx1
    go_wp2_with fail
    refine (limboX_any _ hU1 _).mono ?_
    rintro e w' ⟨rfl, rfl⟩
    generalize limboI n1 = L at *
    clear h1 hI hU1 hx1
    go_wp2_with fail
    go_loopw [7] (fun dv wr => ∃ n, RetJ st Inv g w t r L R n dv wr) (fun dv wr => leastN fun n => RetJ st Inv g w t r L R n dv wr)
    case atStart => exact ⟨f + 1, .inr ⟨s1, f, rfl, rfl, hI1, hB, hP⟩⟩
    case round =>
      obtain ⟨N, hJ, hN⟩ := ghost_least hrel
      have HN := Lib.hid hN
      clear hrel hN hB hI1 hP
      rcases hJ with ⟨s', -, rfl, hI, hB, hP⟩ | ⟨s', k, hNk, rfl, hI, hB, hP⟩
      · go_wp2
        refine bodyPost_end (v := .tuple #[]) (by simp [results, Try.results30, go_sem]) rfl ?_
        rw [← hP]
        exact ⟨rfl, hI, hB⟩
      · rcases k with _ | k
        · exact absurd hP.symm hr
        have HNK := Lib.hid hNk
        clear hNk
        simp only [retireL, PT.run] at hP
        cases h1 : st s' (askL L) with
        | none =>
          simp only [h1] at hP
          go_wp2_with fail
          refine (gload_st hd L h1 _ hI).mono ?_
          rintro e wz ⟨rfl, hx⟩
          refine ⟨rfl, ?_⟩
          rw [← hP]
          exact ⟨rfl, hB.trans hx⟩
        | some q =>
          obtain ⟨n2, s2⟩ := q
          simp only [h1] at hP
          go_wp2_with fail
          refine (gload_nx hd L h1 _ hI).mono ?_
          rintro e w2 ⟨rfl, hU2, hI2, hx2⟩
          replace hB := hB.trans hx2
          clear hx2
          go_wp2_with fail
          refine (fieldB_any t r ht1 ht2 hr1 hr2 _).mono ?_
          rintro e w' ⟨rfl, rfl⟩
          cases h2 : st s2 (askS (linkI t r) n2) with
          | none =>
            simp only [h2] at hP
            go_wp2_with fail
            refine (gstore_st hd _ _ hU2 h2 _ hI2).mono ?_
            rintro e wz ⟨rfl, hx⟩
            refine ⟨rfl, ?_⟩
            rw [← hP]
            exact ⟨rfl, hB.trans hx⟩
          | some q =>
            obtain ⟨n3, s3⟩ := q
            simp only [h2] at hP
            go_wp2_with fail
            refine (gstore_nx hd _ _ hU2 h2 _ hI2).mono ?_
            rintro e w3 ⟨rfl, hU3, hI3, hx3⟩
            replace hB := hB.trans hx3
            clear hx3
            cases h3 : st s3 (askC L n2 r) with
            | none =>
              simp only [h3] at hP
              go_wp2_with fail
              refine (gcas_st hd L n2 r hU2 hru h3 _ hI3).mono ?_
              rintro e wz ⟨rfl, hx⟩
              refine ⟨rfl, ?_⟩
              rw [← hP]
              exact ⟨rfl, hB.trans hx⟩
            | some q =>
              obtain ⟨n4, s4⟩ := q
              simp only [h3] at hP
              go_wp2_with fail
              refine (gcas_nx hd L n2 r hU2 hru h3 _ hI3).mono ?_
              rintro e w4 ⟨rfl, hU4, hI4, hx4⟩
              replace hB := hB.trans hx4
              clear hx4
              by_cases h4 : n4 = 1
              · simp only [if_pos h4, PT.run] at hP
                have hj : RetJ st Inv g w t r L R 0 (.bool true) w4 := .inl ⟨s4, rfl, rfl, hI4, hB, hP⟩
                have h4' : (n4 == 1) = true := by simp [h4]
                rw [h4']
                go_wp2
                go_roundw
                case rel => exact ⟨0, hj⟩
                case measure => exact Nat.lt_of_le_of_lt (leastN_le (p := fun n => RetJ st Inv g w t r L R n _ _) hj) (by rw [← HN.out, HNK.out]; omega)
              · simp only [if_neg h4] at hP
                have hj : RetJ st Inv g w t r L R (k + 1) (.bool false) w4 := .inr ⟨s4, k, rfl, rfl, hI4, hB, hP⟩
                have h4' : (n4 == 1) = false := by simp [h4]
                rw [h4']
                go_wp2
                go_roundw
                case rel => exact ⟨k + 1, hj⟩
                case measure => exact Nat.lt_of_le_of_lt (leastN_le (p := fun n => RetJ st Inv g w t r L R n _ _) hj) (by rw [← HN.out, HNK.out]; omega)
end
end Go.Proofs.Ytjokaginolpbeaa

namespace Go.Proofs.Ytjokaginolpbeaa
open Go Go.RowKit

/-! A range over a function whose body may panic. -/
section
variable {F : Fence} {n : Nat} {P : Program}
/-- as roundPost, and a panic that goes up -/
def roundPostP (P : Program) (l : Nat) (R : Ending → World → Prop) : Exit → Act → World → Prop
  | .panic chain, a, w => a.defers = [] ∧ R (.panicked chain) w
  | e, a, w => roundPost P l R e a w
/-- a round out of its body's walk -/
theorem round_of_wp {l : Nat} {f : FuncId} {fn : Func} {tmps : Array Value} {assign body : Code} {w : World} {R : Ending → World → Prop} (hfn : P.funcs[f]? = some fn) (hF : F.fn f)
    (h : assign.wpIn (F.inRound l) n P (Exit.then (fun a₁ w₁ => ∃ w₂, (Instr.beginRound l).run P w₁ = .ok () w₂ ∧ body.wpIn (F.inRound l) n P (roundPostP P l R) a₁ w₂) (fun _ _ _ => False))
      { tmps := tmps, defers := [] } w) :
    RoundIn F n P l f tmps assign body w R := by
  refine ⟨hF, fun c cs hr => ?_⟩
  let b : Frame := { (default : Frame) with fn := f, kind := .normal, roundOf := some l }
  have hb0 : Frame.round l f tmps assign body .normal = b.atR { tmps := tmps, defers := [] } [.code assign, .beginRound, .code body] := by
    simp [Frame.round, Frame.atR, b]
  have hr' : (F.inRound l).room ((c :: cs).length + 1 + n) := hr
  have hF' : (F.inRound l).fn b.fn := hF
  obtain ⟨e, a₁, w₁, hq, harr⟩ := h b [.beginRound, .code body] (c :: cs) rfl hF' hr'
  rw [← hb0] at harr
  cases e with
  | normal =>
    obtain ⟨w₂, hbr, hbody⟩ := hq
    have s1 : StepsIn (Machine.fenced P (F.inRound l)) P (lone (b.atR a₁ [.beginRound, .code body]) (c :: cs) w₁) (lone (b.atR a₁ [.code body]) (c :: cs) w₂) :=
      .one (fenced_calm (fr := b.atR a₁ [.beginRound, .code body]) hF' hr' rfl) (stepR_beginRound rfl hbr)
    obtain ⟨e₂, a₂, w₃, hq₂, harr₂⟩ := hbody b [] (c :: cs) rfl hF' hr'
    cases e₂ with
    | normal =>
      obtain ⟨v, w₄, hend, hR⟩ := hq₂
      exact ⟨.returned v, w₄, hR, (StepsIn.trans harr s1).trans (StepsIn.trans harr₂ (.one (fenced_calm (fr := b.atR a₂ []) hF' hr' rfl) (stepR_round_end rfl rfl hend)))⟩
    | ret =>
      obtain ⟨v, w₄, hend, hR⟩ := hq₂
      obtain ⟨k₁, hs⟩ := harr₂.2 rfl
      exact ⟨.returned v, w₄, hR, (StepsIn.trans harr s1).trans (StepsIn.trans hs (.one (fenced_calm (fr := b.atR a₂ (.code .ret :: k₁)) hF' hr' rfl) (stepR_round_ret rfl rfl hend)))⟩
    | exit id =>
      obtain ⟨v, w₄, hend, hR⟩ := hq₂
      obtain ⟨k₁, hk, hs⟩ := harr₂.2 rfl rfl
      exact ⟨.returned v, w₄, hR, (StepsIn.trans harr s1).trans (StepsIn.trans hs (.one (fenced_calm (fr := b.atR a₂ (.code (.exit id) :: k₁)) hF' hr' rfl) (stepR_round_exit rfl rfl hk hend)))⟩
    | goto t =>
      obtain ⟨v, w₄, hend, hR⟩ := hq₂
      obtain ⟨k₁, hk, hs⟩ := harr₂.2 rfl rfl
      exact ⟨.returned v, w₄, hR, (StepsIn.trans harr s1).trans (StepsIn.trans hs (.one (fenced_calm (fr := b.atR a₂ (.code (.goto t) :: k₁)) hF' hr' rfl) (stepR_round_goto rfl rfl hk hend)))⟩
    | panic chain =>
      obtain ⟨hd, hR⟩ := hq₂
      obtain ⟨todo, hs⟩ := harr₂
      have hl : (({ b.atR a₂ todo with mode := .panicking chain } : Frame)).leaving P w₃ (.panicked chain) := ⟨rfl, hd, fn, hfn⟩
      refine ⟨.panicked chain, w₃, hR, (StepsIn.trans harr s1).trans (StepsIn.trans hs (.one ?_ (step_leave_panicked hl)))⟩
      exact fenced_leaving (F := F.inRound l) (n := n) hF' hr' hl
    | outgrown => exact hq₂.elim
  | exit id => exact hq.elim
  | goto t => exact hq.elim
  | ret => exact hq.elim
  | panic chain => exact hq.elim
  | outgrown => exact hq.elim
end

/-! A function's body, whose number is known. -/
def wpF (fn0 : Nat) (P : Program) (c : Code) (Q : Exit → Act → World → Prop) (a : Act) (w : World) : Prop :=
  ∀ (b : Frame) (k : List Item) (cs : List Frame), b.roundOf = none → b.fn = fn0 →
    ∃ e a' w', Q e a' w' ∧ ArrivesIn (Machine.fenced P Fence.wide) P (lone (b.atR a (.code c :: k)) cs w) b k cs e a' w'
section
variable {fn0 : Nat} {P : Program} {Q : Exit → Act → World → Prop} {a : Act} {w : World}
theorem wpF_of_wp {c : Code} (h : c.wp P Q a w) : wpF fn0 P c Q a w := fun b k cs hro _ => (wpIn_wide (n := 0)).2 h b k cs hro trivial (room_wide _)
theorem wpF_seqF {x y : Code} (h : wpF fn0 P x (Exit.then (wpF fn0 P y Q) Q) a w) : wpF fn0 P (Code.seq x y) Q a w := by
  intro b k cs hro hb
  have hr : Fence.wide.room (cs.length + 1 + 0) := room_wide _
  have h0 : (lone (b.atR a (.code (.seq x y) :: k)) cs w).fenced P Fence.wide := fenced_wide _ _
  obtain ⟨e, a₁, w₁, hq, harr⟩ := h b (.code y :: k) cs hro hb
  cases e with
  | normal =>
    obtain ⟨e₂, a₂, w₂, hq₂, harr₂⟩ := hq b k cs hro hb
    exact ⟨e₂, a₂, w₂, hq₂, .of_steps (.head h0 stepR_seq harr) harr₂⟩
  | exit id => exact ⟨_, a₁, w₁, hq, .of_steps (.one h0 stepR_seq) (.pass (x := .code y) rfl (fun _ _ => .inl (by simp)) harr)⟩
  | goto l => exact ⟨_, a₁, w₁, hq, .of_steps (.one h0 stepR_seq) (.pass (x := .code y) rfl (fun _ _ => .inl (by simp)) harr)⟩
  | ret => exact ⟨_, a₁, w₁, hq, .of_steps (.one h0 stepR_seq) (.pass (x := .code y) rfl (fun _ _ => .inl (by simp)) harr)⟩
  | panic ch => exact ⟨_, a₁, w₁, hq, .of_steps (.one h0 stepR_seq) (.pass (x := .code y) rfl (fun _ _ => .inl (by simp)) harr)⟩
  | outgrown => exact ⟨_, a₁, w₁, hq, .of_steps (.one h0 stepR_seq) (.pass (x := .code y) rfl (fun _ _ => .inl (by simp)) harr)⟩
theorem wpF_seq_k {x y : Code} (h : ∀ K : Act → World → Prop, (∀ a w, wpF fn0 P y Q a w → K a w) → x.wp P (Exit.then K Q) a w) : wpF fn0 P (Code.seq x y) Q a w :=
  wpF_seqF (wpF_of_wp (h _ fun _ _ h => h))
theorem wpF_block {id : Nat} {c : Code} (h : wpF fn0 P c (Exit.inBlock id Q) a w) : wpF fn0 P (Code.block id c) Q a w := by
  intro b k cs hro hb
  have hI : ∀ {m : Machine}, m.fenced P Fence.wide := fenced_wide _ _
  have h0 : (lone (b.atR a (.code (.block id c) :: k)) cs w).fenced P Fence.wide := hI
  obtain ⟨e, a₁, w₁, hq, harr⟩ := h b (.inBlock id :: k) cs hro hb
  cases e with
  | normal => exact ⟨.normal, a₁, w₁, hq, .head h0 stepR_block (StepsIn.trans harr (.one hI stepR_inBlock))⟩
  | exit id' =>
    by_cases hid : id' = id
    · simp only [Exit.inBlock, hid, if_true] at hq
      exact ⟨.normal, a₁, w₁, hq, .head h0 stepR_block (harr.1 k (by simp [exitTo, hid]))⟩
    · simp only [Exit.inBlock, hid, if_false] at hq
      have this : (id == id') = false := by simp; exact fun h => hid h.symm
      have hx : exitTo id' (.inBlock id :: k) = exitTo id' k := by simp [exitTo, this]
      exact ⟨.exit id', a₁, w₁, hq, fun k' hk => .head h0 stepR_block (harr.1 k' (by rw [hx]; exact hk)),
        fun hr' hk => let ⟨k₁, h1, h2⟩ := harr.2 hr' (by rw [hx]; exact hk); ⟨k₁, h1, .head h0 stepR_block h2⟩⟩
  | goto l =>
    have hx : gotoIn l (.inBlock id :: k) = gotoIn l k := by simp [gotoIn]
    exact ⟨_, a₁, w₁, hq, fun k' hk => .head h0 stepR_block (harr.1 k' (by rw [hx]; exact hk)),
      fun hr' hk => let ⟨k₁, h1, h2⟩ := harr.2 hr' (by rw [hx]; exact hk); ⟨k₁, h1, .head h0 stepR_block h2⟩⟩
  | ret => exact ⟨_, a₁, w₁, hq, .of_steps (.one h0 stepR_block) harr⟩
  | panic ch => exact ⟨_, a₁, w₁, hq, .of_steps (.one h0 stepR_block) harr⟩
  | outgrown => exact ⟨_, a₁, w₁, hq, .of_steps (.one h0 stepR_block) harr⟩
/-- the statement, of a function whose number is known -/
theorem wpF_rangeFunc {n : Nat} {g : Operand} {ps : Array Tmp} {assign body : Code}
    (h : ∃ (l : Nat) (mark : List Deferred) (w₁ : World) (d : Deferred) (w₁' : World) (f : FuncId) (args : Array Value) (w₂ : World),
      (Instr.enterLoop fn0 a.tmps ps assign body none).run P w = .ok (l, mark) w₁ ∧
      (resolve a.eval (rangeCall g l) 0).run P w₁ = .ok d w₁' ∧
      (invoke d.target d.args).run P w₁' = .ok (.enter f args) w₂ ∧
      CallsIn Fence.wide (n - 1) P f args w₂ (rangePost Fence.wide n P l Q { a with defers := mark ++ a.defers })) :
    wpF fn0 P (Code.rangeFunc g ps assign body) Q a w := by
  intro b k cs hro hb
  obtain ⟨l, mark, w₁, d, w₁', f, args, w₂, he, hres, hinv, hF, hcall⟩ := h
  rw [← hro, ← hb] at he
  have hI : ∀ {m : Machine}, m.fenced P Fence.wide := fenced_wide _ _
  have henter := stepR_rangeFunc (P := P) (b := b) (a := a) (k := k) (cs := cs) (w := w) he hres hinv
  obtain ⟨e, w₃, fr, hR, hsteps, hfn, hleave⟩ := hcall (b.atR { a with defers := mark ++ a.defers } (.inRangeFunc l :: k) :: cs) (room_wide _)
  cases e with
  | outgrown =>
    obtain ⟨a₀, w₀, hq⟩ := hR
    exact ⟨.outgrown, a₀, w₀, hq, .inr (Outgrown.of_steps (.one henter) hsteps)⟩
  | returned v =>
    obtain ⟨jump, w₄, hend, hj⟩ := hR
    have sback : StepsIn (Machine.fenced P Fence.wide) P (lone (b.atR a (.code (.rangeFunc g ps assign body) :: k)) cs w) (lone (b.atR { a with defers := mark ++ a.defers } ((jump.map Item.code).toList ++ k)) cs w₄) := by
      refine .head hI henter (StepsIn.trans hsteps (.head hI ?_ (.one hI (stepR_endRangeFunc hend))))
      rw [← finish_atR_inRangeFunc l v]; exact step_leave_returned hleave
    cases jump with
    | none => exact ⟨.normal, _, w₄, hj, sback⟩
    | some c =>
      obtain ⟨e', a'', w₅, hq, harr⟩ := hj b k cs hro trivial (room_wide _)
      exact ⟨e', a'', w₅, hq, .of_steps sback harr⟩
  | panicked chain =>
    refine ⟨.panic chain, _, w₃, hR, .inRangeFunc l :: k, .head hI henter (StepsIn.trans hsteps (.one hI ?_))⟩
    rw [← Frame.raise_atR]; exact step_leave_panicked hleave
/-- the record of a loop -/
def loopRec (st : LoopState) (fn : FuncId) (tmps : Array Value) (ps : Array Tmp) (assign body : Code) (D : Nat) : Loop := { state := st, pending := none, fn, tmps, params := ps, assign, body, defers := D }
theorem wpF_range {n : Nat} {g : Operand} {ps : Array Tmp} {assign body : Code} {gf : Nat} {lb : Array Value} (hg : a.eval g = .func (.func gf) #[] lb) (eg : ∀ args w, (callFunc gf args).run P w = .ok (.enter gf args) w)
    (h : CallsIn Fence.wide (n - 1) P gf (#[.func (.yield (w.heap.size + 1)) #[] #[]] ++ lb) ((w.alloc (.deferred (some []))).alloc (.loop (loopRec .ready fn0 a.tmps ps assign body w.heap.size))) (rangePost Fence.wide n P (w.heap.size + 1) Q { a with defers := [{ target := .collected w.heap.size, args := #[] }] ++ a.defers })) :
    wpF fn0 P (Code.rangeFunc g ps assign body) Q a w := by
  have h1 : (Instr.enterLoop fn0 a.tmps ps assign body none).run P w = .ok (w.heap.size + 1, [{ target := .collected w.heap.size, args := #[] }]) ((w.alloc (.deferred (some []))).alloc (.loop (loopRec .ready fn0 a.tmps ps assign body w.heap.size))) := run_enterLoop_outer _ _ _ _ _
  generalize (w.alloc (.deferred (some []))).alloc (.loop (loopRec .ready fn0 a.tmps ps assign body w.heap.size)) = W1 at *
  generalize w.heap.size + 1 = l at *
  generalize w.heap.size = D at *
  have h2 : (resolve a.eval (rangeCall g l) 0).run P W1 = .ok ({ target := .fn (.func gf) lb, args := #[.func (.yield l) #[] #[]] } : Deferred) W1 := by
    simp only [resolve, hg]
    simp [go_sem]
  have h3 : (invoke (.fn (.func gf) lb) #[.func (.yield l) #[] #[]]).run P W1 = .ok (.enter gf (#[.func (.yield l) #[] #[]] ++ lb)) W1 := by
    simp [invoke, go_sem, eg]
  exact wpF_rangeFunc (n := n) ⟨l, _, W1, _, W1, gf, _, W1, h1, h2, h3, h⟩
/-- a function's contract out of its body -/
theorem calls_of_wpF {n : Nat} {f : FuncId} {fn : Func} {c : Code} {args : Array Value} {R : Ending → World → Prop}
    (hf : P.funcs[f]? = some fn) (hb : fn.body = some c)
    (h : wpF f P c (bodyPostM Fence.wide n P fn R) { tmps := args ++ Array.replicate (fn.ntmps - args.size) undef, defers := [] } w) : Calls P f args w R := by
  refine (callsIn_wide (n := n)).1 ⟨trivial, fun cs hr => ?_⟩
  let b : Frame := { (default : Frame) with fn := f, kind := .normal, roundOf := none }
  have henter : Frame.enter P f args .normal =
      b.atR { tmps := args ++ Array.replicate (fn.ntmps - args.size) undef, defers := [] } [.code c] := by
    simp [Frame.enter, Frame.atR, hf, hb, b]
  have hI : ∀ {m : Machine}, m.fenced P Fence.wide := fenced_wide _ _
  obtain ⟨e, a', w', hq, harr⟩ := h b [] cs rfl rfl
  rw [← henter] at harr
  cases e with
  | normal =>
    obtain ⟨e', w'', fr', hR, hs, hfn, hl⟩ := leaves_stepsInM a'.defers .returning w' { b.atR a' [] with mode := .returning } cs rfl rfl rfl hf rfl trivial hr hq
    exact ⟨e', w'', fr', hR, ComesIn.of_steps (StepsIn.trans harr (.one hI (stepR_end rfl))) hs, hfn, hl⟩
  | ret =>
    obtain ⟨todo, hs₀⟩ := harr.1 rfl
    obtain ⟨e', w'', fr', hR, hs, hfn, hl⟩ := leaves_stepsInM a'.defers .returning w' { b.atR a' todo with mode := .returning } cs rfl rfl rfl hf rfl trivial hr hq
    exact ⟨e', w'', fr', hR, ComesIn.of_steps hs₀ hs, hfn, hl⟩
  | panic chain =>
    obtain ⟨todo, hs₀⟩ := harr
    obtain ⟨e', w'', fr', hR, hs, hfn, hl⟩ := leaves_stepsInM a'.defers (.panicking chain) w' { b.atR a' todo with mode := .panicking chain } cs rfl rfl rfl hf rfl trivial hr hq
    exact ⟨e', w'', fr', hR, ComesIn.of_steps hs₀ hs, hfn, hl⟩
  | exit id => exact hq.elim
  | goto l => exact hq.elim
  | outgrown => exact ⟨.outgrown, w', b, hq, harr.resolve_left (by simp [b]), rfl, trivial⟩
end
end Go.Proofs.Ytjokaginolpbeaa

namespace Go.Proofs.Ytjokaginolpbeaa
open Go.RowKit Go.Shelf
attribute [local go_sem] Oper.semAt_some

/-! epoch.chain: a range over a function whose body may be stopped. -/
/-- as it was, but for two blocks -/
structure ExtB2 (g l : Nat) (w w' : World) : Prop where
  os : w'.os = w.os
  tape : w'.tape = w.tape
  output : w'.output = w.output
  size : w.heap.size ≤ w'.heap.size
  block : ∀ k, k < w.heap.size → k ≠ g → k ≠ l → w'.heap[k]? = w.heap[k]?
theorem ExtB2.refl (g l : Nat) (w : World) : ExtB2 g l w w := ⟨rfl, rfl, rfl, Nat.le_refl _, fun _ _ _ _ => rfl⟩
theorem ExtB2.trans {g l : Nat} {a b c : World} (h : ExtB2 g l a b) (k : ExtB2 g l b c) : ExtB2 g l a c :=
  ⟨k.os.trans h.os, k.tape.trans h.tape, k.output.trans h.output, Nat.le_trans h.size k.size, fun i hi hg hl => (k.block i (Nat.lt_of_lt_of_le hi h.size) hg hl).trans (h.block i hi hg hl)⟩
theorem ExtB2.of {g l : Nat} {w w' : World} (h : ExtB g w w') : ExtB2 g l w w' := ⟨h.os, h.tape, h.output, h.size, fun k hk hg _ => h.block k hk hg⟩
theorem ExtB2.heap {g l : Nat} {w w' : World} (h : ExtB2 g l w w') {k : Nat} {o : Obj} (hk : w.heap[k]? = some o) (hg : k ≠ g) (hl : k ≠ l) : w'.heap[k]? = some o := by
  rw [h.block k (Array.getElem?_eq_some_iff.1 hk).1 hg hl]; exact hk
section
variable {σ : Type} {st : σ → Ask → Option (Int × σ)} {F : FuncId} {c0 c1 : Value} {g : Nat} {Inv : σ → World → Prop}
/-- the boxes that the closure reads -/
structure ChainB (F : FuncId) (c0 c1 : Value) (t h0 : Int) (gh gd gt : Nat) (W : World) : Prop where
  h : W.heap[gh]? = some (.cells #[.int .u64 h0] 22 (0, 0))
  d : W.heap[gd]? = some (.cells #[doF F c0 c1] 65 (0, 0))
  t : W.heap[gt]? = some (.cells #[.int .i64 t] 3 (0, 0))
def ChainP {α : Type} (r : PR σ α) (Inv : σ → World → Prop) (J Jx : World → Prop) (g l : Nat) (w : World) (e : Ending) (w' : World) : Prop :=
  match r with
  | .stop x => e = needP x.acc.cells ∧ Jx w' ∧ ExtB2 g l w w'
  | .ret _ s => (∃ v, e = .returned v) ∧ Inv s w' ∧ J w' ∧ ExtB2 g l w w'
  | .out => False
/-- what a round does -/
def RoundP {α : Type} (r : PR σ α) (Inv : σ → World → Prop) (J Jx : World → Prop) (g l : Nat) (w : World) (e : Ending) (w' : World) : Prop :=
  match r with
  | .stop x => e = needP x.acc.cells ∧ Jx w' ∧ ExtB2 g l w w'
  | .ret _ s => e = .returned (.bool true) ∧ Inv s w' ∧ J w' ∧ ExtB2 g l w w'
  | .out => False
def ChJ (st : σ → Ask → Option (Int × σ)) (Inv : σ → World → Prop) (J : World → Prop) (g l : Nat) (w : World) (t : Int) (f : Nat) (R : PR σ Int) (n : Nat) (rv : Value) (wr : World) : Prop :=
  ∃ (s : σ) (r : Int), rv = .int .i64 r ∧ 0 ≤ r ∧ r < 1048576 ∧ Inv s wr ∧ J wr ∧ ExtB2 g l w wr ∧ (chainT t f n r).run st s = R
set_option maxRecDepth 100000 in
set_option maxHeartbeats 4000000 in
theorem gchain (hd : DoOk st F c0 c1 g Inv) (t : Int) (ht1 : 0 ≤ t) (ht2 : t ≤ 64) (f l : Nat) (J Jx : World → Prop) (hJ : ∀ W W', J W → ExtB g W W' → J W') (hJx : ∀ W, J W → Jx W) (gh gd gt : Nat) (h0 : Int) (hU : U64 h0)
    (n1 : gh ≠ g) (n2 : gd ≠ g) (n3 : gt ≠ g) (n4 : gh ≠ l) (n5 : gd ≠ l) (n6 : gt ≠ l) (m : Nat)
    (hround : ∀ (s : σ) (r : Int) (W : World), Inv s W → J W → 0 < r → r < 1048576 → (pushT t r f).run st s ≠ .out → YieldAt Fence.wide m Try.prog l #[.int .i64 r] W (RoundP ((pushT t r f).run st s) Inv J Jx g l W))
    (k : Nat) (s : σ) (W : World) (hI : Inv s W) (hJW : J W) (hB : ChainB F c0 c1 t h0 gh gd gt W) (hr : (chainT t f k (firstF h0)).run st s ≠ .out) :
    CallsIn Fence.wide (m + 1) Try.prog 152 #[.func (.yield l) #[] #[], .pointer (some ⟨gh, 0, none⟩), .pointer (some ⟨gd, 0, none⟩), .pointer (some ⟨gt, 0, none⟩)] W (ChainP ((chainT t f k (firstF h0)).run st s) Inv J Jx g l W) := by
  generalize hP : (chainT t f k (firstF h0)).run st s = R at hr
  refine callsIn_of_wp Try.func152 rfl trivial (wpIn_wide.2 ?_)
  simp only [Try.ntmps152, List.size_toArray, List.length_cons, List.length_nil, Nat.reduceAdd, Nat.reduceSub, Array.replicate_succ, Array.replicate_zero, List.push_toArray, List.append_toArray, List.nil_append, List.cons_append]
  have k0 : W.cell? ⟨gh, 0, none⟩ = some (.int .u64 h0) := by simp [World.cell?, hB.h]
  go_wp2_with fail
  refine (first_any _ hU _).mono ?_
  rintro e w' ⟨rfl, rfl⟩
  obtain ⟨hf0, hf1⟩ := firstF_rng hU
  generalize firstF h0 = r0 at *
  clear k0
  go_wp2_with fail
  go_loopw [5] (fun rv wr => ∃ n, ChJ st Inv J g l W t f R n rv wr) (fun rv wr => leastN fun n => ChJ st Inv J g l W t f R n rv wr)
  case atStart => exact ⟨k, s, r0, rfl, hf0, hf1, hI, hJW, ExtB2.refl _ _ _, hP⟩
  case round =>
    obtain ⟨N, hJN, hN⟩ := ghost_least hrel
    have HN := Lib.hid hN
    clear hrel hN hP hI hJW hf0 hf1
    obtain ⟨s, r, rfl, hr0, hr1, hI, hJW, hX, hP⟩ := hJN
    have hBr : ChainB F c0 c1 t h0 gh gd gt wr := ⟨hX.heap hB.h n1 n4, hX.heap hB.d n2 n5, hX.heap hB.t n3 n6⟩
    rcases N with _ | N
    · exact absurd hP.symm hr
    simp only [chainT] at hP
    by_cases hz : r = 0
    · simp only [if_pos hz, PT.run] at hP
      subst hz
      go_wp2
      refine bodyPost_end (v := .tuple #[]) (by simp [results, Try.results152, go_sem]) rfl ?_
      rw [← hP]
      exact ⟨⟨_, rfl⟩, hI, hJW, hX⟩
    · simp only [if_neg hz, PT.run] at hP
      have hXB : ∀ wx, Ext wr wx → wx.cell? ⟨gd, 0, none⟩ = some (doF F c0 c1) ∧ wx.cell? ⟨gt, 0, none⟩ = some (.int .i64 t) := fun wx hx => ⟨hx.cell (by simp [World.cell?, hBr.d]), hx.cell (by simp [World.cell?, hBr.t])⟩
      have hpos : 0 < r := by omega
      go_wp2
      refine' wp_region_sure ⟨((some 11, [], none) :: (some 12, [], none) :: (some 13, [], none) :: (some 14, [1, 2], none) :: (some 15, [0, 3, 3], none) :: (some 6, [4, 4, 0, 1, 2, 3, 4], none) :: []), (0 :: 0 :: 0 :: 6 :: 15 :: 31 :: []), [true, true, true, true], [], 0⟩ 4 22 [(0, 11), (1, 12), (2, 13), (3, 14)] [(0, 11), (1, 12), (2, 13), (3, 14)] [.det _, .det _, .det _, .det _] (by kernel_rfl) (by kernel_rfl) (by kernel_rfl) rfl (by kernel_rfl) (by kernel_rfl) rfl ?hone ?hend
      case hone =>
        intro CS frS VS hCS ha hV
        have qs2 := slot_val (t := 2) ha rfl
        simp only [List.getElem_toArray, List.getElem_cons_succ, List.getElem_cons_zero] at qs2
        have qs3 := slot_val (t := 3) ha rfl
        simp only [List.getElem_toArray, List.getElem_cons_succ, List.getElem_cons_zero] at qs3
        have qs5 := slot_val (t := 5) ha rfl
        simp only [List.getElem_toArray, List.getElem_cons_succ, List.getElem_cons_zero] at qs5
        have HCS := Lib.hid hCS
        have HVS := Lib.hid hV
        clear ha hCS hV
        -- 0: slot 11 := Op.load 65 t2
        refine sure_det (js := []) (ts := [2]) (gd := none) (place_at HVS.out (k := 0) rfl) (by rw [HCS.out]; kernel_rfl) ?_ ?_
        · intro wx hx ρ hρ hs hf
          have hρc := hρ.const
          have hρf := hρ.func
          obtain ⟨fx2, -⟩ := hf
          rw [qs2] at fx2
          clear hs
          clear HCS HVS qs2 qs3 qs5
          refine run_plain ?_
          obtain ⟨p0, p1⟩ := hXB wx hx.drawn
          unfold runs
          go_simp
          exact detK.mk
        -- 1: slot 12 := Op.load 3 t3
        refine sure_det (js := []) (ts := [3]) (gd := none) (place_at HVS.out (k := 1) rfl) (by rw [HCS.out]; kernel_rfl) ?_ ?_
        · intro wx hx ρ hρ hs hf
          have hρc := hρ.const
          have hρf := hρ.func
          obtain ⟨fx3, -⟩ := hf
          rw [qs3] at fx3
          clear hs
          clear HCS HVS qs2 qs3 qs5
          refine run_plain ?_
          obtain ⟨p0, p1⟩ := hXB wx hx.drawn
          unfold runs
          go_simp
          exact detK.mk
        -- 2: slot 13 := Op.move t5
        refine sure_det (js := []) (ts := [5]) (gd := none) (place_at HVS.out (k := 2) rfl) (by rw [HCS.out]; kernel_rfl) ?_ ?_
        · intro wx hx ρ hρ hs hf
          have hρc := hρ.const
          have hρf := hρ.func
          obtain ⟨fx5, -⟩ := hf
          rw [qs5] at fx5
          clear hs
          clear HCS HVS qs2 qs3 qs5
          refine run_plain ?_
          refine op_move rfl fx5 ?_
          exact detK.mk
        -- 3: slot 14 := Op.call { call ( 65), args := #[t12, t13, (i64 7)], argTypes := #[3, 3, 3] }
        refine sure_det (js := [(1, 12), (2, 13)]) (ts := []) (gd := none) (place_at HVS.out (k := 3) rfl) (by rw [HCS.out]; kernel_rfl) ?_ ?_
        · intro wx hx ρ hρ hs hf
          have hρc := hρ.const
          have hρf := hρ.func
          obtain ⟨sn1, sn2, -⟩ := hs
          rw [place_at HVS.out (k := 1) rfl] at sn1
          replace sn1 : ρ (.tmp 12) = _ := sn1
          rw [place_at HVS.out (k := 2) rfl] at sn2
          replace sn2 : ρ (.tmp 13) = _ := sn2
          clear hf
          clear HCS HVS qs2 qs3 qs5
          refine run_plain ?_
          refine op_call rfl hρ Try.call65 (map_three sn1 sn2 (hρ.const _)) ?_
          first | (refine Calls.mono (fieldB_any t r ht1 ht2 hr0 (by omega) _) ?_; rintro e w' ⟨rfl, rfl⟩; refine ⟨_, rfl, ?_⟩; exact detK.mk)
        exact trivial
      case hend =>
        intro xs wx hx hg
        have gk0 : xs 0 = _ := goods_get hg (i := 0) (j := 0) (d := 11) rfl
        have gk1 : xs 1 = _ := goods_get hg (i := 1) (j := 1) (d := 12) rfl
        have gk2 : xs 2 = _ := goods_get hg (i := 2) (j := 2) (d := 13) rfl
        have gk3 : xs 3 = _ := goods_get hg (i := 3) (j := 3) (d := 14) rfl
        clear hg
        simp only [putAll, gk0, gk1, gk2, gk3]
        clear gk0 gk1 gk2 gk3
        clear xs
        simp only [Act.put, List.setIfInBounds_toArray, List.set_cons_zero, List.set_cons_succ, List.drop_succ_cons, List.drop_zero]
        go_wp2_with fail
        have hxd := hx.drawn
        replace hI := hd.ext _ _ _ hI hxd
        replace hJW := hJ _ _ hJW (.of hxd)
        replace hX := hX.trans (ExtB2.of (g := g) (l := l) (.of hxd))
        clear hXB hxd hx
        cases h1 : st s (askL (linkI t r)) with
        | none =>
          simp only [h1] at hP
          refine (gload_st hd _ h1 _ hI).mono ?_
          rintro e wz ⟨rfl, hz⟩
          refine ⟨rfl, ?_⟩
          rw [← hP]
          exact ⟨rfl, hJx _ (hJ _ _ hJW hz), hX.trans (.of hz)⟩
        | some q =>
          obtain ⟨v1, s1⟩ := q
          simp only [h1] at hP
          rw [PT.run_bind] at hP
          refine (gload_nx hd _ h1 _ hI).mono ?_
          rintro e w1 ⟨rfl, hU1, hI1, hx1⟩
          replace hJW := hJ _ _ hJW hx1
          replace hX := hX.trans (.of hx1)
          clear hx1 hI
          have hpo : (pushT t r f).run st s1 ≠ .out := fun e => by rw [e] at hP; exact hr hP.symm
          obtain ⟨fn, tmps, assign, body, hy, hR⟩ := hround s1 r w1 hI1 hJW hpos hr1 hpo
          go_upto_region 3 with (fail)
          refine (wpIn_wide (n := m + 1)).1 ?_
          gi_wp2
          refine hR.mono ?_
          clear hR hy
          intro e W' h
          cases hq : (pushT t r f).run st s1 with
          | out => rw [hq] at h; exact h.elim
          | stop x =>
            rw [hq] at h hP
            obtain ⟨rfl, hJ2, hx2⟩ := h
            refine ⟨rfl, ?_⟩
            rw [← hP]
            exact ⟨rfl, hJ2, hX.trans hx2⟩
          | ret q s2 =>
            rw [hq] at h hP
            obtain ⟨rfl, hI2, hJ2, hx2⟩ := h
            have hX2 := hX.trans hx2
            obtain ⟨hg0, hg1⟩ := firstF_rng hU1
            clear hX hx2 hI1 hJW hBr hq hpo
            gi_wp2
            go_wp2_with fail
            refine (first_any _ hU1 _).mono ?_
            rintro e w' ⟨rfl, rfl⟩
            have hj : ChJ st Inv J g l W t f R N (.int .i64 (firstF v1)) W' := ⟨s2, firstF v1, rfl, hg0, hg1, hI2, hJ2, hX2, hP⟩
            go_wp2
            go_roundw
            case rel => exact ⟨N, hj⟩
            case measure => exact Nat.lt_of_le_of_lt (leastN_le (p := fun n => ChJ st Inv J g l W t f R n _ _) hj) (by rw [← HN.out]; omega)
end
end Go.Proofs.Ytjokaginolpbeaa

namespace Go.Proofs.Ytjokaginolpbeaa
open Go.RowKit Go.Shelf
attribute [local go_sem] Oper.semAt_some

/-! epoch.Advance, epoch.Alloc of whatever a program is handed. -/
/-- nothing of it stands in a block that holds no cells -/
def DoAway {σ : Type} (Inv : σ → World → Prop) : Prop := ∀ (s : σ) (w w' : World) (l : Nat) (o : Obj), Inv s w → w.heap[l]? = some o → o.isCells = false → ExtB l w w' → Inv s w'
theorem ExtB.put {g l : Nat} {w0 w : World} (h : ExtB g w0 w) (hl : w0.heap.size ≤ l) (o : Obj) : ExtB g w0 (w.putObj l o) :=
  ⟨h.os, h.tape, h.output, by simpa using h.size, fun k hk hg => by rw [World.putObj_heap_other (by omega)]; exact h.block k hk hg⟩
theorem extB_put (l : Nat) (w : World) (o : Obj) : ExtB l w (w.putObj l o) :=
  ⟨rfl, rfl, rfl, by simp, fun k hk hg => World.putObj_heap_other hg⟩
theorem ExtB.two {g l : Nat} {w0 w w' : World} (h : ExtB g w0 w) (hx : ExtB2 g l w w') (hl : w0.heap.size ≤ l) : ExtB g w0 w' :=
  ⟨hx.os.trans h.os, hx.tape.trans h.tape, hx.output.trans h.output, Nat.le_trans h.size hx.size, fun k hk hg => (hx.block k (Nat.lt_of_lt_of_le hk h.size) hg (by omega)).trans (h.block k hk hg)⟩
section
variable {σ : Type} {st : σ → Ask → Option (Int × σ)} {F : FuncId} {c0 c1 : Value} {g : Nat} {Inv : σ → World → Prop}
theorem bodyPostM_panic {n : Nat} {P : Program} {fn : Func} {R : Ending → World → Prop} {chain : List PanicEntry} {a : Act} {w : World} (hd : a.defers = []) (h : R (.panicked chain) w) : bodyPostM Fence.wide n P fn R (.panic chain) a w := by
  show LeavesInM Fence.wide n P fn a.tmps R a.defers (.panicking chain) w
  rw [hd]; exact h
theorem echain_any (t h : Int) (w : World) : Calls Try.prog 125 #[doF F c0 c1, .int .i64 t, .int .u64 h] w fun e w' => ∃ gd gt gh : Nat, e = .returned (.func (.func 152) #[] #[.pointer (some ⟨gh, 0, none⟩), .pointer (some ⟨gd, 0, none⟩), .pointer (some ⟨gt, 0, none⟩)]) ∧
    w.heap.size ≤ gd ∧ w.heap.size ≤ gt ∧ w.heap.size ≤ gh ∧ ChainB F c0 c1 t h gh gd gt w' ∧ Ext w w' := by
  have hmf : ∀ (fn : Fn) (first cap : Array Value) (w : World), (Instr.makeFunc fn first cap).run Try.prog w = .ok (.func fn first cap) w := fun _ _ _ _ => rfl
  go_enter Try.func125, Try.ntmps125
  go_upto_region 1 with (fail)
  obtain ⟨hx, h0, h1⟩ := two_boxes7 w (.cells #[doF F c0 c1] 65) (.cells #[.int .i64 t] 3)
  have hx2 : Ext ((w.alloc (.cells #[doF F c0 c1] 65)).alloc (.cells #[.int .i64 t] 3)) (((w.alloc (.cells #[doF F c0 c1] 65)).alloc (.cells #[.int .i64 t] 3)).alloc (.cells #[.int .u64 h] 22)) := (Below.refl _ _).alloc (Nat.le_refl _) _
  have h2 := heap_alloc_new ((w.alloc (.cells #[doF F c0 c1] 65)).alloc (.cells #[.int .i64 t] 3)) (.cells #[.int .u64 h] 22)
  have hsz : ((w.alloc (.cells #[doF F c0 c1] 65)).alloc (.cells #[.int .i64 t] 3)).heap.size = w.heap.size + 1 + 1 := by simp
  rw [hsz] at h2
  have hB : ChainB F c0 c1 t h (w.heap.size + 1 + 1) w.heap.size (w.heap.size + 1) (((w.alloc (.cells #[doF F c0 c1] 65)).alloc (.cells #[.int .i64 t] 3)).alloc (.cells #[.int .u64 h] 22)) := ⟨h2, heap_ext h0 hx2, heap_ext h1 hx2⟩
  have hxx := hx.trans hx2
  clear hsz h0 h1 h2 hx hx2
  go_wp2
  go_ret
  exact ⟨w.heap.size, w.heap.size + 1, w.heap.size + 1 + 1, rfl, Nat.le_refl _, by omega, by omega, hB, hxx⟩
theorem ExtB2.put {g l : Nat} {w w' : World} (h : ExtB2 g l w w') (o : Obj) : ExtB2 g l w (w'.putObj l o) :=
  ⟨h.os, h.tape, h.output, by simpa using h.size, fun k hk hg hl => by rw [World.putObj_heap_other hl]; exact h.block k hk hg hl⟩
def needCh (a : Array Value) : List PanicEntry := [{ v := .iface 170 (.agg a), recovered := false }]
set_option maxRecDepth 100000 in
theorem grange (hd : DoOk st F c0 c1 g Inv) (ha : DoAway Inv) (t : Int) (ht1 : 0 ≤ t) (ht2 : t ≤ 64) (f : Nat) {G : Operand} {A B : Code} {a : Act} {Q0 : Exit → Act → World → Prop} (gd' gt' gh' gd gt : Nat) (h0 : Int) (hU : U64 h0) (s3 : σ) (w4 : World) (hI : Inv s3 w4) (hCB : ChainB F c0 c1 t h0 gh' gd' gt' w4)
    (hg : g < w4.heap.size) (n1 : gh' ≠ g) (n2 : gd' ≠ g) (n3 : gt' ≠ g) (n4 : gd ≠ g) (n5 : gt ≠ g) (hbd : w4.heap[gd]? = some (.cells #[doF F c0 c1] 65 (0, 0))) (hbt : w4.heap[gt]? = some (.cells #[.int .i64 t] 3 (0, 0)))
    (hev : a.eval G = .func (.func 152) #[] #[.pointer (some ⟨gh', 0, none⟩), .pointer (some ⟨gd', 0, none⟩), .pointer (some ⟨gt', 0, none⟩)])
    (hA : ∀ (l m : Nat) (r : Int) (W : World) (K : Act → World → Prop), K { tmps := (a.tmps.setIfInBounds 42 (.int .i64 r)).setIfInBounds 8 (.int .i64 r), defers := [] } W → A.wpIn (Fence.wide.inRound l) m Try.prog (Exit.then K (fun _ _ _ => False)) { tmps := ((#[42] : Array Tmp).zip #[.int .i64 r]).foldl (fun t (p, v) => t.setIfInBounds p v) a.tmps, defers := [] } W)
    (hB : ∀ (l m : Nat) (r : Int) (s : σ) (W : World) (Q' : Exit → Act → World → Prop), 0 < r → r < 1048576 → Inv s W → W.heap[gd]? = some (.cells #[doF F c0 c1] 65 (0, 0)) → W.heap[gt]? = some (.cells #[.int .i64 t] 3 (0, 0)) → (pushT t r f).run st s ≠ .out →
      (∀ a' w', a'.defers = [] → match (pushT t r f).run st s with | .ret _ s' => Inv s' w' → ExtB g W w' → Q' .normal a' w' | .stop x => ExtB g W w' → Q' (.panic (needCh x.acc.cells)) a' w' | .out => True) → B.wpIn (Fence.wide.inRound l) m Try.prog Q' { tmps := (a.tmps.setIfInBounds 42 (.int .i64 r)).setIfInBounds 8 (.int .i64 r), defers := [] } W)
    (hr : (chainT t f f (firstF h0)).run st s3 ≠ .out)
    (hdone : ∀ (q : Int) (s' : σ) (w' : World), (chainT t f f (firstF h0)).run st s3 = .ret q s' → Inv s' w' → ExtB g w4 w' → w'.heap[w4.heap.size]? = some (.deferred (some [])) → Q0 .normal { a with defers := [{ target := .collected w4.heap.size, args := #[] }] ++ a.defers } w')
    (hstop : ∀ (x : Ask) (w' : World), (chainT t f f (firstF h0)).run st s3 = .stop x → ExtB g w4 w' → w'.heap[w4.heap.size]? = some (.deferred (some [])) → Q0 (.panic (needCh x.acc.cells)) { a with defers := [{ target := .collected w4.heap.size, args := #[] }] ++ a.defers } w') :
    wpF 31 Try.prog (Code.rangeFunc G #[42] A B) Q0 a w4 := by
  refine wpF_range (n := 9) hev Try.call152 ?_
  have hlh := (Array.getElem?_eq_some_iff.1 hCB.h).1
  have hld := (Array.getElem?_eq_some_iff.1 hCB.d).1
  have hlt := (Array.getElem?_eq_some_iff.1 hCB.t).1
  have hkd := (Array.getElem?_eq_some_iff.1 hbd).1
  have hkt := (Array.getElem?_eq_some_iff.1 hbt).1
  obtain ⟨hx, hD, hl⟩ := two_boxes7 w4 (.deferred (some [])) (.loop (loopRec .ready 31 a.tmps #[42] A B w4.heap.size))
  generalize (w4.alloc (.deferred (some []))).alloc (.loop (loopRec .ready 31 a.tmps #[42] A B w4.heap.size)) = W5 at *
  generalize hDD : w4.heap.size = D at *
  have hlg : D + 1 ≠ g := by omega
  have hDg : D ≠ g := by omega
  have hC := gchain hd t ht1 ht2 f (D + 1) (fun W => W.heap[D + 1]? = some (.loop (loopRec .ready 31 a.tmps #[42] A B D)) ∧ W.heap[D]? = some (.deferred (some [])) ∧ W.heap[gd]? = some (.cells #[doF F c0 c1] 65 (0, 0)) ∧ W.heap[gt]? = some (.cells #[.int .i64 t] 3 (0, 0)))
    (fun W => W.heap[D]? = some (.deferred (some []))) (fun W W' h hx => ⟨hx.heap h.1 hlg, hx.heap h.2.1 hDg, hx.heap h.2.2.1 n4, hx.heap h.2.2.2 n5⟩) (fun W h => h.2.1) gh' gd' gt' h0 hU n1 n2 n3 (by omega) (by omega) (by omega) 7 ?_ f s3 W5 (hd.ext _ _ _ hI hx) ⟨hl, hD, heap_ext hbd hx, heap_ext hbt hx⟩ ⟨heap_ext hCB.h hx, heap_ext hCB.d hx, heap_ext hCB.t hx⟩ hr
  · refine hC.mono ?_
    intro e w' h
    cases hq : (chainT t f f (firstF h0)).run st s3 with
    | out => exact absurd hq hr
    | stop x =>
      rw [hq] at h
      obtain ⟨rfl, hD', hx'⟩ := h
      exact hstop x w' hq (((ExtB.of hx : ExtB g w4 W5)).two hx' (by omega)) hD'
    | ret q s' =>
      rw [hq] at h
      obtain ⟨⟨v, rfl⟩, hI', ⟨hl', hD', -, -⟩, hx'⟩ := h
      refine ⟨none, _, run_endLoop hl' (by simp [loopRec]), ?_⟩
      exact hdone q s' _ hq (ha _ _ _ _ _ hI' hl' rfl (extB_put _ _ _)) ((((ExtB.of hx : ExtB g w4 W5)).two hx' (by omega)).put (by omega) _) ((World.putObj_heap_other (by omega)).trans hD')
  · intro s r W hI ⟨hl, hD, hbd, hbt⟩ hr0 hr1 hpo
    refine ⟨_, _, A, B, run_yield hl rfl, ?_⟩
    refine round_of_wp Try.func31 trivial (hA (D + 1) 7 r W _ ⟨_, run_beginRound hl rfl, ?_⟩)
    have hlt2 : D + 1 < W.heap.size := (Array.getElem?_eq_some_iff.1 hl).1
    refine hB (D + 1) 7 r s _ _ hr0 hr1 (ha _ _ _ _ _ hI hl rfl (extB_put _ _ _)) ((World.putObj_heap_other (by omega)).trans hbd) ((World.putObj_heap_other (by omega)).trans hbt) hpo ?_
    have hl2 := World.putObj_heap_same (w := W) (o := .loop { loopRec .ready 31 a.tmps #[42] A B D with state := .busy }) hlt2
    have hx2 : ExtB2 g (D + 1) W (W.putObj (D + 1) (.loop { loopRec .ready 31 a.tmps #[42] A B D with state := .busy })) := (ExtB2.refl _ _ _).put _
    have hD2 : (W.putObj (D + 1) (.loop { loopRec .ready 31 a.tmps #[42] A B D with state := .busy })).heap[D]? = some (.deferred (some [])) := (World.putObj_heap_other (by omega)).trans hD
    have hbd2 : (W.putObj (D + 1) (.loop { loopRec .ready 31 a.tmps #[42] A B D with state := .busy })).heap[gd]? = _ := (World.putObj_heap_other (by omega)).trans hbd
    have hbt2 : (W.putObj (D + 1) (.loop { loopRec .ready 31 a.tmps #[42] A B D with state := .busy })).heap[gt]? = _ := (World.putObj_heap_other (by omega)).trans hbt
    generalize W.putObj (D + 1) (.loop { loopRec .ready 31 a.tmps #[42] A B D with state := .busy }) = W2 at *
    intro a' w' hdf
    cases hq : (pushT t r f).run st s with
    | out => trivial
    | stop x =>
      intro hxx
      exact ⟨hdf, rfl, hxx.heap hD2 hDg, hx2.trans (.of hxx)⟩
    | ret q s' =>
      intro hI' hxx
      have hl3 := hxx.heap hl2 hlg
      refine ⟨_, _, run_endRound none hl3, ?_⟩
      have hlt3 : D + 1 < w'.heap.size := (Array.getElem?_eq_some_iff.1 hl3).1
      exact ⟨rfl, ha _ _ _ _ _ hI' hl3 rfl (extB_put _ _ _), ⟨World.putObj_heap_same hlt3, (World.putObj_heap_other (by omega)).trans (hxx.heap hD2 hDg), (World.putObj_heap_other (by omega)).trans (hxx.heap hbd2 n4), (World.putObj_heap_other (by omega)).trans (hxx.heap hbt2 n5)⟩, (hx2.trans (.of hxx)).put _⟩
def PinJ (st : σ → Ask → Option (Int × σ)) (Inv : σ → World → Prop) (g : Nat) (W0 : World) (t e : Int) (KK : Bool → PT Bool) (R : PR σ Bool) (iv : Value) (wr : World) : Prop :=
  ∃ (s : σ) (i : Int), iv = .int .i64 i ∧ 0 ≤ i ∧ i ≤ t ∧ Inv s wr ∧ ExtB g W0 wr ∧ ((pinsT e (t - i).toNat i).bind KK).run st s = R
set_option maxRecDepth 100000 in
set_option maxHeartbeats 8000000 in
theorem gadvance (hd : DoOk st F c0 c1 g Inv) (ha : DoAway Inv) (t : Int) (ht1 : 0 ≤ t) (ht2 : t ≤ 64) (f : Nat) (s : σ) (w : World) (hI : Inv s w) (hg : g < w.heap.size) (hr : (advT t f).run st s ≠ .out) :
    Calls Try.prog 31 #[doF F c0 c1, .int .i64 t] w (RunP ((advT t f).run st s) Inv g w .bool) := by
  generalize hP : (advT t f).run st s = R at hr
  simp only [advT, PT.run] at hP
  refine calls_of_wpF (n := 9) Try.func31 rfl ?_
  simp only [Try.ntmps31, List.size_toArray, List.length_cons, List.length_nil, Nat.reduceAdd, Nat.reduceSub, Array.replicate_succ, Array.replicate_zero, List.push_toArray, List.append_toArray, List.nil_append, List.cons_append]
  generalize hQ : bodyPostM Fence.wide 9 Try.prog Try.f31 (RunP R Inv g w .bool) = Q
  have HQ := Lib.hid hQ
  clear hQ
  refine wpF_seq_k fun K0 hK0 => ?_
  go_wp2
  obtain ⟨hW, hd0, ht0⟩ := two_boxes7 w (.cells #[doF F c0 c1] 65) (.cells #[.int .i64 t] 3)
  generalize (w.alloc (.cells #[doF F c0 c1] 65)).alloc (.cells #[.int .i64 t] 3) = W0 at *
  replace hI := hd.ext _ _ _ hI hW
  have hgn := hW.size
  have hl1 : w.heap.size + 1 < W0.heap.size := (Array.getElem?_eq_some_iff.1 ht0).1
  have hgd : w.heap.size ≠ g := by omega
  have hgt : w.heap.size + 1 ≠ g := by omega
  have hwg : w.heap.size ≤ w.heap.size := Nat.le_refl _
  have hwg1 : w.heap.size ≤ w.heap.size + 1 := by omega
  generalize hx1 : w.heap.size + 1 = gt at *
  clear hx1
  generalize hx2 : w.heap.size = gd at *
  have hwD : w.heap.size ≤ gd := Nat.le_of_eq hx2
  clear hx2 hwg
  have k0 : W0.cell? ⟨gd, 0, none⟩ = some (doF F c0 c1) := by simp [World.cell?, hd0]
  refine wpF_seq_k fun K1 hK1 => ?_
  cases h1 : st s (askL 3) with
  | none =>
    simp only [h1] at hP
    go_wp2_with fail
    refine (gload_st hd 3 h1 _ hI).mono ?_
    rintro e wz ⟨rfl, hx⟩
    rw [← HQ.out]
    show RunP R Inv g w .bool (.panicked _) _
    rw [← hP]
    exact ⟨rfl, (ExtB.of hW).trans (hx)⟩
  | some q =>
    obtain ⟨n1, s1⟩ := q
    simp only [h1] at hP
    go_wp2_with fail
    refine (gload_nx hd 3 h1 _ hI).mono ?_
    rintro e w1 ⟨rfl, hU1, hI1, hX⟩
    clear h1 hI k0
    go_wp2
    have hBX : ∀ wr, ExtB g W0 wr → wr.heap[gd]? = some (.cells #[doF F c0 c1] 65 (0, 0)) ∧ wr.heap[gt]? = some (.cells #[.int .i64 t] 3 (0, 0)) := fun wr hx => ⟨hx.heap hd0 hgd, hx.heap ht0 hgt⟩
    have hinc : IntKind.u64.wrap (n1 + 1) = incW n1 := IntKind.wrap_u64 _
    have hincu := incW_u n1
    generalize hKK : (fun ok : Bool => (if ok = true then PT.ask (askC 3 n1 (incW n1)) fun c => if c = 1 then PT.ask (askX (limboI ((n1 + 2) % 18446744073709551616)) 0) fun h => (chainT t f f (firstF h)).bind fun _ => PT.ret true else PT.ret false else PT.ret false)) = KK at hP
    have HKK := Lib.hid hKK
    clear hKK
    have hPJ : PinJ st Inv g W0 t n1 KK R (.int .i64 0) w1 := ⟨s1, 0, rfl, Int.le_refl _, ht1, hI1, hX, by rw [Int.sub_zero]; exact hP⟩
    clear hP hI1 hX
    generalize hE : incW n1 = n1' at *
    have HE := Lib.hid hE
    clear hE
    refine wpF_seq_k fun K2 hK2 => ?_
    have t0 : w1.cell? ⟨gt, 0, none⟩ = some (.int .i64 t) := by
      obtain ⟨_, _, _, _, _, _, hX, _⟩ := hPJ
      simp [World.cell?, (hBX _ hX).2]
    go_wp2_with fail
    clear t0
    go_loopw [12] (fun iv wr => PinJ st Inv g W0 t n1 KK R iv wr) (fun iv _ => (t - intOf iv).toNat)
    case atStart => exact hPJ
    case round =>
      obtain ⟨s, i, rfl, hi0, hit, hI, hX, hP⟩ := hrel
      clear hPJ
      obtain ⟨hbd, hbt⟩ := hBX _ hX
      rcases Int.lt_or_le i t with hlt | hle
      · obtain ⟨m, hm⟩ : ∃ m : Nat, (t - i).toNat = m + 1 := ⟨(t - i).toNat - 1, by omega⟩
        rw [hm] at hP
        simp only [pinsT, PT.bind, PT.run] at hP
        have hXB : ∀ wx, Ext wr wx → wx.cell? ⟨gd, 0, none⟩ = some (doF F c0 c1) := fun wx hx => hx.cell (by simp [World.cell?, hbd])
        have hwi : IntKind.i64.wrap (i + 1) = i + 1 := by rw [IntKind.wrap_i64]; omega
        have HM := Lib.hid hm
        clear hm hbd hbt hd0 ht0 hBX
        go_wp2
        refine' wp_region_sure ⟨[(some 15, [], none), (some 16, [], none), (some 17, [1], none), (some 18, [0, 2, 2], none), (some 7, [3, 3, 0, 1, 2, 3], none)], [0, 0, 2, 7, 15], [true, true, true], [], 0⟩ 3 47 [(0, 15), (1, 16), (2, 17)] [(0, 15), (1, 16), (2, 17)] [.det _, .det _, .det _] (by kernel_rfl) (by kernel_rfl) (by kernel_rfl) rfl (by kernel_rfl) (by kernel_rfl) rfl ?hone ?hend
        case hone =>
          intro CS frS VS hCS ha hV
          have qs2 := slot_val (t := 2) ha rfl
          simp only [List.getElem_toArray, List.getElem_cons_succ, List.getElem_cons_zero] at qs2
          have qs6 := slot_val (t := 6) ha rfl
          simp only [List.getElem_toArray, List.getElem_cons_succ, List.getElem_cons_zero] at qs6
          have HCS := Lib.hid hCS
          have HVS := Lib.hid hV
          clear ha hCS hV
          -- 0: slot 15 := Op.load 65 t2
          refine sure_det (js := []) (ts := [2]) (gd := none) (place_at HVS.out (k := 0) rfl) (by rw [HCS.out]; kernel_rfl) ?_ ?_
          · intro wx hx ρ hρ hs hf
            have hρc := hρ.const
            have hρf := hρ.func
            obtain ⟨fx2, -⟩ := hf
            rw [qs2] at fx2
            clear hs
            clear HCS HVS qs2 qs6
            refine run_plain ?_
            have p0 := hXB wx hx.drawn
            unfold runs
            go_simp
            exact detK.mk
          -- 1: slot 16 := Op.move t6
          refine sure_det (js := []) (ts := [6]) (gd := none) (place_at HVS.out (k := 1) rfl) (by rw [HCS.out]; kernel_rfl) ?_ ?_
          · intro wx hx ρ hρ hs hf
            have hρc := hρ.const
            have hρf := hρ.func
            obtain ⟨fx6, -⟩ := hf
            rw [qs6] at fx6
            clear hs
            clear HCS HVS qs2 qs6
            refine run_plain ?_
            refine op_move rfl fx6 ?_
            exact detK.mk
          -- 2: slot 17 := Op.call { call ( 63), args := #[t16], argTypes := #[3] }
          refine sure_det (js := [(1, 16)]) (ts := []) (gd := none) (place_at HVS.out (k := 2) rfl) (by rw [HCS.out]; kernel_rfl) ?_ ?_
          · intro wx hx ρ hρ hs hf
            have hρc := hρ.const
            have hρf := hρ.func
            obtain ⟨sn1, -⟩ := hs
            rw [place_at HVS.out (k := 1) rfl] at sn1
            replace sn1 : ρ (.tmp 16) = _ := sn1
            clear hf
            clear HCS HVS qs2 qs6
            refine run_plain ?_
            refine op_call rfl hρ Try.call63 (map_one sn1) ?_
            first | (refine Calls.mono (cpin_any i (by omega) (by omega) _) ?_; rintro e w' ⟨rfl, rfl⟩; refine ⟨_, rfl, ?_⟩; exact detK.mk)
          exact trivial
        case hend =>
          intro xs wx hx hg
          have gk0 : xs 0 = _ := goods_get hg (i := 0) (j := 0) (d := 15) rfl
          have gk1 : xs 1 = _ := goods_get hg (i := 1) (j := 1) (d := 16) rfl
          have gk2 : xs 2 = _ := goods_get hg (i := 2) (j := 2) (d := 17) rfl
          clear hg
          simp only [putAll, gk0, gk1, gk2]
          clear gk0 gk1 gk2
          clear xs
          simp only [Act.put, List.setIfInBounds_toArray, List.set_cons_zero, List.set_cons_succ, List.drop_succ_cons, List.drop_zero]
          go_wp2_with fail
          have hxd := hx.drawn
          replace hI := hd.ext _ _ _ hI hxd
          replace hX := hX.trans (.of hxd)
          clear hXB hxd hx
          cases h1 : st s (askL (8 + i)) with
          | none =>
            simp only [h1] at hP
            refine (gload_st hd _ h1 _ hI).mono ?_
            rintro e wz ⟨rfl, hz⟩
            show Q (.panic _) _ _
            rw [← HQ.out]
            show RunP R Inv g w .bool (.panicked _) _
            rw [← hP]
            exact ⟨rfl, (ExtB.of hW).trans (hX.trans hz)⟩
          | some q =>
            obtain ⟨v1, s2⟩ := q
            simp only [h1] at hP
            refine (gload_nx hd _ h1 _ hI).mono ?_
            rintro e w2 ⟨rfl, hU2, hI2, hx2⟩
            replace hX := hX.trans hx2
            clear hx2 hI h1
            by_cases hv : v1 = 0 ∨ v1 = n1'
            · have hv' : v1 = 0 ∨ v1 = incW n1 := by rw [HE.out]; exact hv
              simp only [if_pos hv'] at hP
              have hj : PinJ st Inv g W0 t n1 KK R (.int .i64 (i + 1)) w2 := ⟨s2, i + 1, rfl, by omega, by omega, hI2, hX, by rw [show (t - (i + 1)).toNat = m by have := HM.out; omega]; exact hP⟩
              have hlt2 : (t - (i + 1)).toNat < (t - i).toNat := by have := HM.out; omega
              clear hv' hP
              rcases hv with hv | hv
              · subst hv
                go_wp2
                exact ⟨hj, by simpa [intOf] using hlt2⟩
              · subst hv
                rcases Decidable.em (v1 = 0) with hv0 | hv0
                · subst hv0
                  go_wp2
                  exact ⟨hj, by simpa [intOf] using hlt2⟩
                · go_wp2
                  exact ⟨hj, by simpa [intOf] using hlt2⟩
            · have hv' : ¬ (v1 = 0 ∨ v1 = incW n1) := by rw [HE.out]; exact hv
              simp only [if_neg hv', PT.bind] at hP
              have hv1 : ¬ v1 = 0 := fun h => hv (.inl h)
              have hv2 : ¬ v1 = n1' := fun h => hv (.inr h)
              have hPR : PR.ret false s2 = R := by rw [← hP, ← HKK.out]; rfl
              clear hv hv' hP
              have hb1 : (v1 != 0) = true := by simp [hv1]
              have hb2 : (v1 != n1') = true := by simp [hv2]
              go_wp2
              rw [← HQ.out]
              refine ⟨.bool false, by simp [results, Try.results31, go_sem], ?_⟩
              show RunP R Inv g w .bool (.returned _) _
              rw [← hPR]
              exact ⟨rfl, hI2, (ExtB.of hW).trans hX⟩
      · obtain rfl : t = i := by omega
        rw [show (t - t).toNat = 0 by omega] at hP
        simp only [pinsT, PT.bind] at hP
        rw [← HKK.out] at hP
        simp only [if_true, PT.run] at hP
        have hn : ¬ t < t := by omega
        have k0 : wr.cell? ⟨gd, 0, none⟩ = some (doF F c0 c1) := by simp [World.cell?, hbd]
        go_wp2
        refine wpF_seq_k fun K3 hK3 => ?_
        cases h1 : st s (askC 3 n1 n1') with
        | none =>
          simp only [h1] at hP
          go_wp2_with fail
          refine (gcas_st hd 3 n1 n1' hU1 hincu h1 _ hI).mono ?_
          rintro e wz ⟨rfl, hz⟩
          show Q (.panic _) _ _
          rw [← HQ.out]
          show RunP R Inv g w .bool (.panicked _) _
          rw [← hP]
          exact ⟨rfl, (ExtB.of hW).trans (hX.trans hz)⟩
        | some q =>
          obtain ⟨v1, s2⟩ := q
          simp only [h1] at hP
          go_wp2_with fail
          refine (gcas_nx hd 3 n1 n1' hU1 hincu h1 _ hI).mono ?_
          rintro e w2 ⟨rfl, hU2, hI2, hx2⟩
          replace hX := hX.trans hx2
          clear hx2 hI h1 k0 hbd hbt
          by_cases hv : v1 = 1
          · simp only [if_pos hv, PT.run] at hP
            have hvb : (v1 == 1) = true := by simp [hv]
            rw [hvb]
            clear hv hvb hU2
            go_wp2
            obtain ⟨hbd, hbt⟩ := hBX _ hX
            have hXB : ∀ wx, Ext w2 wx → wx.cell? ⟨gd, 0, none⟩ = some (doF F c0 c1) ∧ wx.cell? ⟨gt, 0, none⟩ = some (.int .i64 t) := fun wx hx => ⟨hx.cell (by simp [World.cell?, hbd]), hx.cell (by simp [World.cell?, hbt])⟩
            clear hbd hbt
            have he2 : IntKind.u64.wrap (n1 + 2) = (n1 + 2) % 18446744073709551616 := IntKind.wrap_u64 _
            have he2u : U64 ((n1 + 2) % 18446744073709551616) := by unfold U64; omega
            generalize (n1 + 2) % 18446744073709551616 = e2 at *
            have hlim := limboX_any e2 he2u
            generalize limboI e2 = L at *
            obtain ⟨z0, z1⟩ := hXB w2 (Ext.refl _)
            clear hXB
            have hX0 : ∀ bs wx, SB.ExtS bs w2.drew wx → gd ∉ bs → wx.cell? ⟨gd, 0, none⟩ = some (doF F c0 c1) := fun bs wx hx hb => hx.cell z0 hb
            have hX1 : ∀ bs wx, SB.ExtS bs w2.drew wx → gt ∉ bs → wx.cell? ⟨gt, 0, none⟩ = some (.int .i64 t) := fun bs wx hx hb => hx.cell z1 hb
            clear z0 z1
            refine wpF_seqF (wpF_seq_k fun K4 hK4 => ?_)
            cases h2 : st s2 (askX L 0) with
            | none =>
              simp only [h2] at hP
              refine' SB.wp_region_sure (gx := [(6, g)]) (Pn := fun chain wx => Ending.panicked chain = needP (askX L 0).acc.cells ∧ ExtB g w2 wx) ⟨((some 34, [], none) :: (some 35, [], none) :: (some 36, [], none) :: (some 37, [], none) :: (some 38, [3], none) :: (some 39, [4], none) :: (some 40, [2, 5, 5], none) :: (some 41, [0, 1, 6, 6], none) :: []), (0 :: 0 :: 0 :: 0 :: 8 :: 24 :: 60 :: 127 :: []), (none :: none :: none :: none :: none :: none :: none :: []), [6]⟩ 7 47 ((0, 34) :: (1, 35) :: (2, 36) :: (3, 37) :: (4, 38) :: (5, 39) :: (6, 40) :: []) ((0, 34) :: (1, 35) :: (2, 36) :: (3, 37) :: (4, 38) :: (5, 39) :: (6, 40) :: []) (.det _ :: .det _ :: .det _ :: .det _ :: .det _ :: .det _ :: (SB.Good.own fun v => False) :: []) (by kernel_rfl) ?hpan (by kernel_rfl) (by kernel_rfl) rfl (by kernel_rfl) (by kernel_rfl) rfl ?hone ?hend
              case hpan =>
                (intro chain a' w' hdf hch; show Q (.panic _) _ _; rw [← HQ.out]; refine bodyPostM_panic hdf ?_; show RunP R Inv g w .bool (.panicked _) _; rw [← hP]; exact ⟨hch.1, (ExtB.of hW).trans (hX.trans hch.2)⟩)
              case hone =>
                intro CS frS VS hCS ha hV
                have qs2 := slot_val (t := 2) ha rfl
                simp only [List.getElem_toArray, List.getElem_cons_succ, List.getElem_cons_zero] at qs2
                have qs3 := slot_val (t := 3) ha rfl
                simp only [List.getElem_toArray, List.getElem_cons_succ, List.getElem_cons_zero] at qs3
                have qs5 := slot_val (t := 5) ha rfl
                simp only [List.getElem_toArray, List.getElem_cons_succ, List.getElem_cons_zero] at qs5
                have HCS := Lib.hid hCS
                have HVS := Lib.hid hV
                clear ha hCS hV
                -- 0: slot 34 := Op.load 65 t2
                refine SB.sure_det (js := []) (ts := [2]) (gd := none) (bs := [g]) (SB.place_at HVS.out (k := 0) rfl) (by rw [HCS.out]; kernel_rfl) (by rw [HCS.out]; kernel_rfl) ?_ ?_
                · intro wx hx ρ hρ hs hf
                  have hρc := hρ.const
                  have hρf := hρ.func
                  obtain ⟨fx2, -⟩ := hf
                  rw [qs2] at fx2
                  clear hs
                  clear HCS HVS qs2 qs3 qs5
                  refine SB.run_plain ?_
                  have z0 := hX0 _ _ hx (by simp [hgd])
                  unfold SB.runs
                  go_simp
                  exact SB.detK.mk
                -- 1: slot 35 := Op.load 3 t3
                refine SB.sure_det (js := []) (ts := [3]) (gd := none) (bs := [g]) (SB.place_at HVS.out (k := 1) rfl) (by rw [HCS.out]; kernel_rfl) (by rw [HCS.out]; kernel_rfl) ?_ ?_
                · intro wx hx ρ hρ hs hf
                  have hρc := hρ.const
                  have hρf := hρ.func
                  obtain ⟨fx3, -⟩ := hf
                  rw [qs3] at fx3
                  clear hs
                  clear HCS HVS qs2 qs3 qs5
                  refine SB.run_plain ?_
                  have z1 := hX1 _ _ hx (by simp [hgt])
                  unfold SB.runs
                  go_simp
                  exact SB.detK.mk
                -- 2: slot 36 := Op.load 65 t2
                refine SB.sure_det (js := []) (ts := [2]) (gd := none) (bs := []) (SB.place_at HVS.out (k := 2) rfl) (by rw [HCS.out]; kernel_rfl) (by rw [HCS.out]; kernel_rfl) ?_ ?_
                · intro wx hx ρ hρ hs hf
                  have hρc := hρ.const
                  have hρf := hρ.func
                  obtain ⟨fx2, -⟩ := hf
                  rw [qs2] at fx2
                  clear hs
                  clear HCS HVS qs2 qs3 qs5
                  refine SB.run_plain ?_
                  have z0 := hX0 _ _ hx (by simp [hgd])
                  unfold SB.runs
                  go_simp
                  exact SB.detK.mk
                -- 3: slot 37 := Op.move t5
                refine SB.sure_det (js := []) (ts := [5]) (gd := none) (bs := []) (SB.place_at HVS.out (k := 3) rfl) (by rw [HCS.out]; kernel_rfl) (by rw [HCS.out]; kernel_rfl) ?_ ?_
                · intro wx hx ρ hρ hs hf
                  have hρc := hρ.const
                  have hρf := hρ.func
                  obtain ⟨fx5, -⟩ := hf
                  rw [qs5] at fx5
                  clear hs
                  clear HCS HVS qs2 qs3 qs5
                  refine SB.run_plain ?_
                  refine SB.op_move rfl fx5 ?_
                  exact SB.detK.mk
                -- 4: slot 38 := Op.binOp BinOp.add 22 t37 ((u64 2)) 22
                refine SB.sure_det (js := [(3, 37)]) (ts := []) (gd := none) (bs := []) (SB.place_at HVS.out (k := 4) rfl) (by rw [HCS.out]; kernel_rfl) (by rw [HCS.out]; kernel_rfl) ?_ ?_
                · intro wx hx ρ hρ hs hf
                  have hρc := hρ.const
                  have hρf := hρ.func
                  obtain ⟨sn3, -⟩ := hs
                  rw [SB.place_at HVS.out (k := 3) rfl] at sn3
                  replace sn3 : ρ (.tmp 37) = _ := sn3
                  clear hf
                  clear HCS HVS qs2 qs3 qs5
                  refine SB.run_plain ?_
                  unfold SB.runs
                  go_simp
                  exact SB.detK.mk
                -- 5: slot 39 := Op.call { call ( 124), args := #[t38], argTypes := #[22] }
                refine SB.sure_det (js := [(4, 38)]) (ts := []) (gd := none) (bs := []) (SB.place_at HVS.out (k := 5) rfl) (by rw [HCS.out]; kernel_rfl) (by rw [HCS.out]; kernel_rfl) ?_ ?_
                · intro wx hx ρ hρ hs hf
                  have hρc := hρ.const
                  have hρf := hρ.func
                  obtain ⟨sn4, -⟩ := hs
                  rw [SB.place_at HVS.out (k := 4) rfl] at sn4
                  replace sn4 : ρ (.tmp 38) = _ := sn4
                  clear hf
                  clear HCS HVS qs2 qs3 qs5
                  refine SB.run_plain ?_
                  refine SB.op_call rfl hρ Try.call124 (map_one sn4) ?_
                  refine Calls.mono (hlim _) ?_
                  rintro e w' ⟨rfl, rfl⟩
                  refine .inl ⟨_, rfl, ?_⟩
                  exact SB.detK.mk
                -- 6: slot 40 := Op.call { call ( 103), args := #[t36, t39, (u64 0)], argTypes := #[65, 3, 22] }
                refine SB.sure_wild (js := [(2, 36), (5, 39)]) (ts := []) (gd := none) (bs := []) (cs := [g]) (SB.place_at HVS.out (k := 6) rfl) (by rw [HCS.out]; kernel_rfl) (by rw [HCS.out]; kernel_rfl) rfl ?_ ?_
                · intro wx hx ρ hρ hs hf
                  have hρc := hρ.const
                  have hρf := hρ.func
                  obtain ⟨sn2, sn5, -⟩ := hs
                  rw [SB.place_at HVS.out (k := 2) rfl] at sn2
                  replace sn2 : ρ (.tmp 36) = _ := sn2
                  rw [SB.place_at HVS.out (k := 5) rfl] at sn5
                  replace sn5 : ρ (.tmp 39) = _ := sn5
                  clear hf
                  clear HCS HVS qs2 qs3 qs5
                  refine SB.run_plain ?_
                  refine SB.op_call rfl hρ Try.call103 (map_three sn2 sn5 (hρ.const _)) ?_
                  refine Calls.mono (gswap_st hd L 0 u64_zero h2 wx (hd.ext _ _ _ hI2 hx.ext.drawn)) ?_
                  rintro e w' ⟨rfl, hx7⟩
                  exact .inr ⟨_, rfl, rfl, (ExtB.of hx.ext.drawn).trans hx7⟩
                exact trivial
              case hend =>
                intro xs wx hx hg hq
                have gk0 : xs 0 = _ := SB.goods_get hg (i := 0) (j := 0) (d := 34) rfl
                have gk1 : xs 1 = _ := SB.goods_get hg (i := 1) (j := 1) (d := 35) rfl
                have gk2 : xs 2 = _ := SB.goods_get hg (i := 2) (j := 2) (d := 36) rfl
                have gk3 : xs 3 = _ := SB.goods_get hg (i := 3) (j := 3) (d := 37) rfl
                have gk4 : xs 4 = _ := SB.goods_get hg (i := 4) (j := 4) (d := 38) rfl
                have gk5 : xs 5 = _ := SB.goods_get hg (i := 5) (j := 5) (d := 39) rfl
                have gk6 : False := SB.goods_get hg (i := 6) (j := 6) (d := 40) rfl
                clear hg hq
                simp only [putAll, gk0, gk1, gk2, gk3, gk4, gk5]
                clear gk0 gk1 gk2 gk3 gk4 gk5
                generalize xs 6 = vx6 at gk6 ⊢
                clear xs
                simp only [Act.put, List.setIfInBounds_toArray, List.set_cons_zero, List.set_cons_succ, List.drop_succ_cons, List.drop_zero]
                exact gk6.elim
            | some q =>
              obtain ⟨h0, s3⟩ := q
              simp only [h2] at hP
              refine' SB.wp_region_sure (gx := [(6, g)]) (Pn := fun _ _ => False) ⟨((some 34, [], none) :: (some 35, [], none) :: (some 36, [], none) :: (some 37, [], none) :: (some 38, [3], none) :: (some 39, [4], none) :: (some 40, [2, 5, 5], none) :: (some 41, [0, 1, 6, 6], none) :: []), (0 :: 0 :: 0 :: 0 :: 8 :: 24 :: 60 :: 127 :: []), (none :: none :: none :: none :: none :: none :: some [] :: []), [6]⟩ 7 47 ((0, 34) :: (1, 35) :: (2, 36) :: (3, 37) :: (4, 38) :: (5, 39) :: (6, 40) :: []) ((0, 34) :: (1, 35) :: (2, 36) :: (3, 37) :: (4, 38) :: (5, 39) :: (6, 40) :: []) (.det _ :: .det _ :: .det _ :: .det _ :: .det _ :: .det _ :: SB.Good.of (fun v w => v = .int .u64 h0 ∧ (Inv s3 w ∧ U64 h0)) (fun v w w' h hx => ⟨h.1, hd.ext _ _ _ h.2.1 hx, h.2.2⟩) :: []) (by kernel_rfl) ?hpan (by kernel_rfl) (by kernel_rfl) rfl (by kernel_rfl) (by kernel_rfl) rfl ?hone ?hend
              case hpan =>
                intro _ _ _ _ h; exact h.elim
              case hone =>
                intro CS frS VS hCS ha hV
                have qs2 := slot_val (t := 2) ha rfl
                simp only [List.getElem_toArray, List.getElem_cons_succ, List.getElem_cons_zero] at qs2
                have qs3 := slot_val (t := 3) ha rfl
                simp only [List.getElem_toArray, List.getElem_cons_succ, List.getElem_cons_zero] at qs3
                have qs5 := slot_val (t := 5) ha rfl
                simp only [List.getElem_toArray, List.getElem_cons_succ, List.getElem_cons_zero] at qs5
                have HCS := Lib.hid hCS
                have HVS := Lib.hid hV
                clear ha hCS hV
                -- 0: slot 34 := Op.load 65 t2
                refine SB.sure_det (js := []) (ts := [2]) (gd := none) (bs := [g]) (SB.place_at HVS.out (k := 0) rfl) (by rw [HCS.out]; kernel_rfl) (by rw [HCS.out]; kernel_rfl) ?_ ?_
                · intro wx hx ρ hρ hs hf
                  have hρc := hρ.const
                  have hρf := hρ.func
                  obtain ⟨fx2, -⟩ := hf
                  rw [qs2] at fx2
                  clear hs
                  clear HCS HVS qs2 qs3 qs5
                  refine SB.run_plain ?_
                  have z0 := hX0 _ _ hx (by simp [hgd])
                  unfold SB.runs
                  go_simp
                  exact SB.detK.mk
                -- 1: slot 35 := Op.load 3 t3
                refine SB.sure_det (js := []) (ts := [3]) (gd := none) (bs := [g]) (SB.place_at HVS.out (k := 1) rfl) (by rw [HCS.out]; kernel_rfl) (by rw [HCS.out]; kernel_rfl) ?_ ?_
                · intro wx hx ρ hρ hs hf
                  have hρc := hρ.const
                  have hρf := hρ.func
                  obtain ⟨fx3, -⟩ := hf
                  rw [qs3] at fx3
                  clear hs
                  clear HCS HVS qs2 qs3 qs5
                  refine SB.run_plain ?_
                  have z1 := hX1 _ _ hx (by simp [hgt])
                  unfold SB.runs
                  go_simp
                  exact SB.detK.mk
                -- 2: slot 36 := Op.load 65 t2
                refine SB.sure_det (js := []) (ts := [2]) (gd := none) (bs := []) (SB.place_at HVS.out (k := 2) rfl) (by rw [HCS.out]; kernel_rfl) (by rw [HCS.out]; kernel_rfl) ?_ ?_
                · intro wx hx ρ hρ hs hf
                  have hρc := hρ.const
                  have hρf := hρ.func
                  obtain ⟨fx2, -⟩ := hf
                  rw [qs2] at fx2
                  clear hs
                  clear HCS HVS qs2 qs3 qs5
                  refine SB.run_plain ?_
                  have z0 := hX0 _ _ hx (by simp [hgd])
                  unfold SB.runs
                  go_simp
                  exact SB.detK.mk
                -- 3: slot 37 := Op.move t5
                refine SB.sure_det (js := []) (ts := [5]) (gd := none) (bs := []) (SB.place_at HVS.out (k := 3) rfl) (by rw [HCS.out]; kernel_rfl) (by rw [HCS.out]; kernel_rfl) ?_ ?_
                · intro wx hx ρ hρ hs hf
                  have hρc := hρ.const
                  have hρf := hρ.func
                  obtain ⟨fx5, -⟩ := hf
                  rw [qs5] at fx5
                  clear hs
                  clear HCS HVS qs2 qs3 qs5
                  refine SB.run_plain ?_
                  refine SB.op_move rfl fx5 ?_
                  exact SB.detK.mk
                -- 4: slot 38 := Op.binOp BinOp.add 22 t37 ((u64 2)) 22
                refine SB.sure_det (js := [(3, 37)]) (ts := []) (gd := none) (bs := []) (SB.place_at HVS.out (k := 4) rfl) (by rw [HCS.out]; kernel_rfl) (by rw [HCS.out]; kernel_rfl) ?_ ?_
                · intro wx hx ρ hρ hs hf
                  have hρc := hρ.const
                  have hρf := hρ.func
                  obtain ⟨sn3, -⟩ := hs
                  rw [SB.place_at HVS.out (k := 3) rfl] at sn3
                  replace sn3 : ρ (.tmp 37) = _ := sn3
                  clear hf
                  clear HCS HVS qs2 qs3 qs5
                  refine SB.run_plain ?_
                  unfold SB.runs
                  go_simp
                  exact SB.detK.mk
                -- 5: slot 39 := Op.call { call ( 124), args := #[t38], argTypes := #[22] }
                refine SB.sure_det (js := [(4, 38)]) (ts := []) (gd := none) (bs := []) (SB.place_at HVS.out (k := 5) rfl) (by rw [HCS.out]; kernel_rfl) (by rw [HCS.out]; kernel_rfl) ?_ ?_
                · intro wx hx ρ hρ hs hf
                  have hρc := hρ.const
                  have hρf := hρ.func
                  obtain ⟨sn4, -⟩ := hs
                  rw [SB.place_at HVS.out (k := 4) rfl] at sn4
                  replace sn4 : ρ (.tmp 38) = _ := sn4
                  clear hf
                  clear HCS HVS qs2 qs3 qs5
                  refine SB.run_plain ?_
                  refine SB.op_call rfl hρ Try.call124 (map_one sn4) ?_
                  refine Calls.mono (hlim _) ?_
                  rintro e w' ⟨rfl, rfl⟩
                  refine .inl ⟨_, rfl, ?_⟩
                  exact SB.detK.mk
                -- 6: slot 40 := Op.call { call ( 103), args := #[t36, t39, (u64 0)], argTypes := #[65, 3, 22] }
                refine SB.sure_wild (js := [(2, 36), (5, 39)]) (ts := []) (gd := none) (bs := []) (cs := [g]) (SB.place_at HVS.out (k := 6) rfl) (by rw [HCS.out]; kernel_rfl) (by rw [HCS.out]; kernel_rfl) rfl ?_ ?_
                · intro wx hx ρ hρ hs hf
                  have hρc := hρ.const
                  have hρf := hρ.func
                  obtain ⟨sn2, sn5, -⟩ := hs
                  rw [SB.place_at HVS.out (k := 2) rfl] at sn2
                  replace sn2 : ρ (.tmp 36) = _ := sn2
                  rw [SB.place_at HVS.out (k := 5) rfl] at sn5
                  replace sn5 : ρ (.tmp 39) = _ := sn5
                  clear hf
                  clear HCS HVS qs2 qs3 qs5
                  refine SB.run_plain ?_
                  refine SB.op_call rfl hρ Try.call103 (map_three sn2 sn5 (hρ.const _)) ?_
                  refine Calls.mono (gswap_nx hd L 0 u64_zero h2 wx (hd.ext _ _ _ hI2 hx.ext.drawn)) ?_
                  rintro e w' ⟨rfl, hU3, hI3, hB3⟩
                  exact .inl ⟨_, rfl, .ofB hB3 (by simp), rfl, hI3, hU3⟩
                exact trivial
              case hend =>
                intro xs wx hx hg hq
                have gk0 : xs 0 = _ := SB.goods_get hg (i := 0) (j := 0) (d := 34) rfl
                have gk1 : xs 1 = _ := SB.goods_get hg (i := 1) (j := 1) (d := 35) rfl
                have gk2 : xs 2 = _ := SB.goods_get hg (i := 2) (j := 2) (d := 36) rfl
                have gk3 : xs 3 = _ := SB.goods_get hg (i := 3) (j := 3) (d := 37) rfl
                have gk4 : xs 4 = _ := SB.goods_get hg (i := 4) (j := 4) (d := 38) rfl
                have gk5 : xs 5 = _ := SB.goods_get hg (i := 5) (j := 5) (d := 39) rfl
                have gk6 : (xs 6) = .int .u64 h0 ∧ (Inv s3 wx ∧ U64 h0) := SB.goods_get hg (i := 6) (j := 6) (d := 40) rfl
                clear hg hq
                simp only [putAll, gk0, gk1, gk2, gk3, gk4, gk5]
                clear gk0 gk1 gk2 gk3 gk4 gk5
                generalize xs 6 = vx6 at gk6 ⊢
                clear xs
                simp only [Act.put, List.setIfInBounds_toArray, List.set_cons_zero, List.set_cons_succ, List.drop_succ_cons, List.drop_zero]
                obtain ⟨e6, hI3, hU3⟩ := gk6
                subst e6
                go_wp2_with fail
                replace hX := hX.trans ((ExtB.of (Ext.refl w2).drew).trans hx.toB)
                clear hX0 hX1 hx hI2 h2
                refine (echain_any t h0 _).mono ?_
                rintro e w4 ⟨gd', gt', gh', rfl, l1, l2, l3, hCB, hx4⟩
                replace hI3 := hd.ext _ _ _ hI3 hx4
                have hX3 := hX.size
                replace hX := hX.trans (.of hx4)
                clear hx4
                obtain ⟨hbd, hbt⟩ := hBX _ hX
                go_wp2
                have hch : (chainT t f f (firstF h0)).run st s3 ≠ .out := fun h => by
                  rw [PT.run_bind, h] at hP
                  exact hr hP.symm
                rw [PT.run_bind] at hP
                refine wpF_block (grange hd ha t ht1 ht2 f gd' gt' gh' gd gt h0 hU3 s3 w4 hI3 hCB (by have := hX.size; omega) (by omega) (by omega) (by omega) hgd hgt hbd hbt rfl ?hA ?hB hch ?hdone ?hstop)
                case hA =>
                  intro l m r W K hK
                  simp only [List.setIfInBounds_toArray, List.set_cons_zero, List.set_cons_succ] at hK
                  gi_wp2
                  exact hK
                case hB =>
                  intro l m r s W Q' hr0 hr1 hIs hbd2 hbt2 hpo hQ'
                  simp only [List.setIfInBounds_toArray, List.set_cons_zero, List.set_cons_succ]
                  have y0 : W.cell? ⟨gd, 0, none⟩ = some (doF F c0 c1) := by simp [World.cell?, hbd2]
                  have y1 : W.cell? ⟨gt, 0, none⟩ = some (.int .i64 t) := by simp [World.cell?, hbt2]
                  have hpu := gpush hd t r ht1 ht2 (by omega) (by omega) f s W hIs hpo
                  clear hP hIs
                  gi_wp2_with fail
                  refine ⟨trivial, (fun h => by simp [Fence.wide] at h), (CallsIn.inRound l (callsIn_wide.2 hpu)).mono ?_⟩
                  intro e w' hrun
                  cases hq : (pushT t r f).run st s with
                  | out => exact absurd hq hpo
                  | stop x =>
                    rw [hq] at hrun hQ'
                    obtain ⟨rfl, hxx⟩ := hrun
                    exact hQ' _ _ rfl hxx
                  | ret q s' =>
                    rw [hq] at hrun hQ'
                    obtain ⟨rfl, hI', hxx⟩ := hrun
                    gi_wp2
                    exact hQ' _ _ rfl hI' hxx
                case hdone =>
                  intro q s' w' hq hI' hx hD
                  show wpF _ _ _ _ _ _
                  refine wpF_of_wp ?_
                  rw [hq] at hP
                  have hPR : PR.ret true s' = R := hP
                  go_wp2
                  rw [← HQ.out]
                  refine ⟨by simp, .inl ⟨_, _, rfl, run_takeDeferred hD, ⟨.bool true, by simp [results, Try.results31, go_sem], ?_⟩⟩⟩
                  show RunP R Inv g w .bool (.returned _) _
                  rw [← hPR]
                  exact ⟨rfl, ha _ _ _ _ _ hI' hD rfl (extB_put _ _ _), ((ExtB.of hW).trans (hX.trans hx)).put (by have := hX.size; omega) _⟩
                case hstop =>
                  intro x w' hq hx hD
                  show Q (.panic _) _ _
                  rw [hq] at hP
                  rw [← HQ.out]
                  refine ⟨by simp, .inl ⟨_, _, rfl, run_takeDeferred hD, ?_⟩⟩
                  show RunP R Inv g w .bool (.panicked _) _
                  rw [← hP]
                  exact ⟨rfl, ((ExtB.of hW).trans (hX.trans hx)).put (by have := hX.size; omega) _⟩
          · simp only [if_neg hv, PT.run] at hP
            have hvb : (v1 == 1) = false := by simp [hv]
            rw [hvb]
            go_wp2
            rw [← HQ.out]
            refine ⟨.bool false, by simp [results, Try.results31, go_sem], ?_⟩
            show RunP R Inv g w .bool (.returned _) _
            rw [← hP]
            exact ⟨rfl, hI2, (ExtB.of hW).trans hX⟩
def AllJ (st : σ → Ask → Option (Int × σ)) (Inv : σ → World → Prop) (g : Nat) (w : World) (t me : Int) (f : Nat) (R : PR σ Int) (rv iv : Value) (wr : World) : Prop :=
  ∃ (s : σ) (r : Int) (n : Nat), rv = .int .i64 r ∧ iv = .int .i64 (3 - (n : Int)) ∧ n ≤ 3 ∧ Inv s wr ∧ ExtB g w wr ∧ (allocL t me f n r).run st s = R
set_option maxRecDepth 100000 in
set_option maxHeartbeats 8000000 in
theorem galloc (hd : DoOk st F c0 c1 g Inv) (ha : DoAway Inv) (t me : Int) (ht1 : 0 ≤ t) (ht2 : t ≤ 64) (hm1 : 0 ≤ me) (hm2 : me ≤ 64) (f : Nat) (s : σ) (w : World) (hI : Inv s w) (hg : g < w.heap.size) (hr : (allocT t me f).run st s ≠ .out) :
    Calls Try.prog 29 #[doF F c0 c1, .int .i64 t, .int .i64 me] w (RunP ((allocT t me f).run st s) Inv g w (.int .i64)) := by
  generalize hP : (allocT t me f).run st s = R at hr
  simp only [allocT] at hP
  rw [PT.run_bind] at hP
  go_enter Try.func29, Try.ntmps29
  have hpo : (popT t f).run st s ≠ .out := fun h => by rw [h] at hP; exact hr hP.symm
  go_wp2_with fail
  refine (gpop hd t ht1 ht2 f s w hI hpo).mono ?_
  intro e w1 h
  cases hq : (popT t f).run st s with
  | out => exact absurd hq hpo
  | stop x =>
    rw [hq] at h hP
    obtain ⟨rfl, hx⟩ := h
    refine ⟨rfl, ?_⟩
    rw [← hP]
    exact ⟨rfl, hx⟩
  | ret r s1 =>
    rw [hq] at h hP
    obtain ⟨rfl, hI1, hx⟩ := h
    clear hq hpo
    go_wp2
    go_loopw [7, 8] (fun rv iv wr => ∃ _u : Unit, AllJ st Inv g w t me f R rv iv wr) (fun _ iv _ => (3 - intOf iv).toNat)
    case atStart => exact ⟨(), s1, r, 3, rfl, rfl, Nat.le_refl _, hI1, hx, hP⟩
    case round =>
      obtain ⟨-, s, r, n, rfl, rfl, hn, hI, hX, hP⟩ := hrel
      clear hI1 hx
      rcases n with _ | n
      · simp only [allocL, PT.run] at hP
        have hlt : ¬ (3 - ((0 : Nat) : Int)) < 3 := by omega
        go_wp2
        go_ret
        rw [← hP]
        exact ⟨rfl, hI, hX⟩
      · have hlt : (3 - ((n + 1 : Nat) : Int)) < 3 := by omega
        have hwi : IntKind.i64.wrap (3 - ((n + 1 : Nat) : Int) + 1) = 3 - (n : Int) := by rw [IntKind.wrap_i64]; omega
        simp only [allocL] at hP
        obtain ⟨i, hi⟩ : ∃ i : Int, 3 - ((n + 1 : Nat) : Int) = i := ⟨_, rfl⟩
        rw [hi] at hlt hwi
        simp only [hi]
        by_cases hz : r = 0
        · simp only [if_pos hz] at hP
          rw [PT.run_bind] at hP
          subst hz
          have HI := Lib.hid hi
          clear hi
          go_wp2_with fail
          refine (gpin hd me hm1 hm2 s _ hI).mono ?_
          intro e w2 h
          cases hq : (pinT me).run st s with
          | out => rw [hq] at h; exact h.elim
          | stop x =>
            rw [hq] at h hP
            obtain ⟨rfl, hx⟩ := h
            refine ⟨rfl, ?_⟩
            rw [← hP]
            exact ⟨rfl, hX.trans hx⟩
          | ret q s2 =>
            rw [hq] at h hP
            obtain ⟨rfl, hI2, hx2⟩ := h
            have hX2 := hX.trans hx2
            clear hq hx2 hX hI
            simp only at hP
            rw [PT.run_bind] at hP
            have hao : (advT t f).run st s2 ≠ .out := fun h => by rw [h] at hP; exact hr hP.symm
            go_wp2_with fail
            refine (gadvance hd ha t ht1 ht2 f s2 _ hI2 (Nat.lt_of_lt_of_le hg hX2.size) hao).mono ?_
            intro e w3 h
            cases hq : (advT t f).run st s2 with
            | out => exact absurd hq hao
            | stop x =>
              rw [hq] at h hP
              obtain ⟨rfl, hx⟩ := h
              refine ⟨rfl, ?_⟩
              rw [← hP]
              exact ⟨rfl, hX2.trans hx⟩
            | ret q s3 =>
              rw [hq] at h hP
              obtain ⟨rfl, hI3, hx3⟩ := h
              have hX3 := hX2.trans hx3
              clear hq hx3 hX2 hI2 hao
              simp only at hP
              rw [PT.run_bind] at hP
              have hpo : (popT t f).run st s3 ≠ .out := fun h => by rw [h] at hP; exact hr hP.symm
              go_wp2_with fail
              refine (gpop hd t ht1 ht2 f s3 _ hI3 hpo).mono ?_
              intro e w4 h
              cases hq : (popT t f).run st s3 with
              | out => exact absurd hq hpo
              | stop x =>
                rw [hq] at h hP
                obtain ⟨rfl, hx⟩ := h
                refine ⟨rfl, ?_⟩
                rw [← hP]
                exact ⟨rfl, hX3.trans hx⟩
              | ret r2 s4 =>
                rw [hq] at h hP
                obtain ⟨rfl, hI4, hx4⟩ := h
                have hj : AllJ st Inv g w t me f R (.int .i64 r2) (.int .i64 (3 - (n : Int))) w4 := ⟨s4, r2, n, rfl, rfl, by omega, hI4, hX3.trans hx4, hP⟩
                clear hq hx4 hX3 hI3 hpo hP hI4
                go_wp2
                go_roundw
                case rel => exact ⟨(), hj⟩
                case measure => have := HI.out; simp only [intOf]; omega
        · simp only [if_neg hz, PT.run] at hP
          have hzb : (r == 0) = false := by simp [hz]
          go_wp2
          go_ret
          rw [← hP]
          exact ⟨rfl, hI, hX⟩
end
end Go.Proofs.Ytjokaginolpbeaa

namespace Go.Proofs.Ytjokaginolpbeaa
open Go.RowKit

/-! What a program is handed by play.Run; pool.Pop, pool.Push of it. -/
def LogI (gA gL m : Nat) (rs : List Res) (w : World) : Prop := DoAt m w gA gL rs ∧ GoodR rs
theorem log_ok (gA gL m : Nat) : DoOk (stM Res.n) 142 (.pointer (some ⟨gA, 0, none⟩)) (.pointer (some ⟨gL, 0, none⟩)) gA (LogI gA gL m) where
  ext s w w' h hx := ⟨h.1.ext hx, h.2⟩
  call := Try.call142
  run s w x h hx := by
    cases s with
    | nil => exact (do_stop _ _ _ _ _ _ gA gL m w h.1).mono fun e w' ⟨he, hx⟩ => ⟨he, .of hx⟩
    | cons r rs => exact (do_next _ _ _ _ _ _ gA gL r rs m w h.1).mono fun e w' ⟨he, h1, h2⟩ => ⟨⟨_, he, r.A, r.k, r.c, r.fail, rfl⟩, h.2 r (by simp), ⟨h1, fun q hq => h.2 q (by simp [hq])⟩, h2⟩
end Go.Proofs.Ytjokaginolpbeaa

namespace Go.Proofs.Ytjokaginolpbeaa
open Go.RowKit

/-! epoch.Next. -/
theorem log_away (gA gL m : Nat) : DoAway (LogI gA gL m) := by
  intro rs w w' l o ⟨hD, hG⟩ hl ho hx
  refine ⟨?_, hG⟩
  obtain ⟨i, n, c, A, fr, h1, h2, h3, h4, h5, h6⟩ := hD
  have nA : gA ≠ l := fun e => by subst e; rw [h1] at hl; cases hl; cases ho
  have nL : gL ≠ l := fun e => by subst e; rw [h2] at hl; cases hl; cases ho
  refine ⟨i, n, c, A, fr, hx.heap h1 nA, hx.heap h2 nL, h3, h4, h5, fun j r hr => ?_⟩
  obtain ⟨a, ha, hb, hm, hc⟩ := h6 j r hr
  refine ⟨a, ha, hb, hm, hc.extB hx fun e => ?_⟩
  have h7 := hc.1
  unfold World.cell? at h7
  rw [add_block, e, hl] at h7
  cases o <;> simp_all [Obj.isCells]
theorem run_stL_map {α : Type} : ∀ {T : PT α} {rs : List Res}, match T.run (stM Res.n) rs with
    | .ret a s' => T.run stL (rs.map Res.n) = .ret a (s'.map Res.n)
    | .stop x => T.run stL (rs.map Res.n) = .stop x
    | .out => T.run stL (rs.map Res.n) = .out
  | .ret a, rs => rfl
  | .out, rs => rfl
  | .ask x k, [] => rfl
  | .ask x k, r :: rs => by
    simp only [PT.run, stM, stL, List.map_cons]
    exact run_stL_map
def ENextP (r : PR (List Res) OutN) (gA : Nat) (w : World) (e : Ending) (w' : World) : Prop :=
  match r with
  | .stop x => e = needP x.acc.cells ∧ ExtB gA w w'
  | .ret o _ => e = .returned (.agg o.cells) ∧ ExtB gA w w'
  | .out => False
set_option maxRecDepth 100000 in
set_option maxHeartbeats 4000000 in
theorem enext_pin (gA gL m gT gM gP : Nat) (t me u v d : Int) (ht1 : 0 ≤ t) (ht2 : t ≤ 64) (hm1 : 0 ≤ me) (hm2 : me ≤ 64)  (f : Nat) (rs : List Res) (hf : rs.length < f) (w : World) (hD : DoAt m w gA gL rs) (hU : GoodR rs) (hP : w.heap[gP]? = some (.cells #[.int .i64 3, .int .i64 u, .int .i64 v, .int .u64 d] 24 (0, 0))) (hT : w.heap[gT]? = some (.cells #[.int .i64 t] 3 (0, 0))) (hM : w.heap[gM]? = some (.cells #[.int .i64 me] 3 (0, 0))) (nP : gP ≠ gA) (nT : gT ≠ gA) (nM : gM ≠ gA) :
    Calls Try.prog 112 #[doV gA gL, .pointer (some ⟨gP, 0, none⟩), .pointer (some ⟨gM, 0, none⟩), .pointer (some ⟨gT, 0, none⟩)] w (ENextP ((epochT t me 3 u f).run (stM Res.n) rs) gA w) := by
  have hlA : gA < w.heap.size := hD.sizes.1
  have hb1 : ∀ (W : World) (z : Int), (Instr.build 37 #[(2, .int .i64 z)]).run Try.prog W = .ok (.agg #[.int .i64 0, .bool false, .int .i64 z, .int .u64 0, .slice none 0 0]) W := fun _ _ => by kernel_rfl
  have hb4 : ∀ (W : World) (z : Bool), (Instr.build 37 #[(1, .bool z)]).run Try.prog W = .ok (.agg #[.int .i64 0, .bool z, .int .i64 0, .int .u64 0, .slice none 0 0]) W := fun _ _ => by kernel_rfl
  have hb2 : ∀ (W : World), (Instr.build 37 #[]).run Try.prog W = .ok (.agg #[.int .i64 0, .bool false, .int .i64 0, .int .u64 0, .slice none 0 0]) W := fun _ => by kernel_rfl
  have hb3 : ∀ (W : World), (Instr.build 37 #[(0, .int .i64 1)]).run Try.prog W = .ok (.agg #[.int .i64 1, .bool false, .int .i64 0, .int .u64 0, .slice none 0 0]) W := fun _ => by kernel_rfl
  have hfed := (epochT_fed t me 3 u f rs.length hf).run (l := rs) Res.n
  generalize hR : (epochT t me 3 u f).run (stM Res.n) rs = R at hfed
  go_enter Try.func112, Try.ntmps112
  go_upto_region 1 with (fail)
  have hx0 : Ext w (w.alloc (.cells #[.int .i64 0, .bool false, .int .i64 0, .int .u64 0, .slice none 0 0] 37)) := (Below.refl _ w).alloc (Nat.le_refl _) _
  have hO := heap_alloc_new w (.cells #[.int .i64 0, .bool false, .int .i64 0, .int .u64 0, .slice none 0 0] 37)
  generalize w.alloc (.cells #[.int .i64 0, .bool false, .int .i64 0, .int .u64 0, .slice none 0 0] 37) = W0 at *
  generalize hgO : w.heap.size = gO at *
  replace hP := heap_ext hP hx0
  replace hT := heap_ext hT hx0
  replace hM := heap_ext hM hx0
  replace hD := hD.ext hx0
  have hlA0 : gA < W0.heap.size := hD.sizes.1
  have hB := ExtB.of (g := gA) hx0
  have nO : gO ≠ gA := by omega
  have hgO' := Nat.le_of_eq hgO
  clear hx0 hgO hlA nP nT nM
  have p0 : W0.cell? ⟨gP, 0, none⟩ = some (.int .i64 3) := by simp [World.cell?, hP]
  have p1 : W0.cell? ⟨gP, 1, none⟩ = some (.int .i64 u) := by simp [World.cell?, hP]
  have p2 : W0.cell? ⟨gP, 2, none⟩ = some (.int .i64 v) := by simp [World.cell?, hP]
  have p3 : W0.cell? ⟨gP, 3, none⟩ = some (.int .u64 d) := by simp [World.cell?, hP]
  have c0 : W0.cell? ⟨gT, 0, none⟩ = some (.int .i64 t) := by simp [World.cell?, hT]
  have c1 : W0.cell? ⟨gM, 0, none⟩ = some (.int .i64 me) := by simp [World.cell?, hM]
  clear hP hT hM
  have hE0 : epochT t me 3 u f = (pinT me).bind fun r => .ret ⟨0, false, 0, 0⟩ := by simp [epochT]
  rw [hE0, PT.run_bind] at hR
  have hto : (pinT me).run (stM Res.n) rs ≠ .out := fun h => by rw [h] at hR; exact hfed hR.symm
  have hI : LogI gA gL m rs W0 := ⟨hD, hU⟩
  clear hE0
  go_wp2_with fail
  refine (gpin (log_ok gA gL m) me hm1 hm2 rs W0 hI).mono ?_
  intro e w1 h
  cases hq : (pinT me).run (stM Res.n) rs with
  | out => exact absurd hq hto
  | stop x =>
    rw [hq] at h hR
    obtain ⟨rfl, hx⟩ := h
    refine ⟨rfl, ?_⟩
    rw [← hR]
    exact ⟨rfl, hB.trans hx⟩
  | ret r q =>
    rw [hq] at h hR
    obtain ⟨rfl, -, hx⟩ := h
    have HR := Lib.hid hR
    replace hO := hx.heap hO nO
    replace hB := hB.trans hx
    clear hx hq hto p0 p1 p2 p3 c0 c1 hI hR hfed
    have o0 : w1.cell? ⟨gO, 0, none⟩ = some (.int .i64 0) := by simp [World.cell?, hO]
    have of0 : w1.frozen? ⟨gO, 0, none⟩ = false := by simp [World.frozen?, hO]
    have o1 : w1.cell? ⟨gO, 1, none⟩ = some (.bool false) := by simp [World.cell?, hO]
    have of1 : w1.frozen? ⟨gO, 1, none⟩ = false := by simp [World.frozen?, hO]
    have o2 : w1.cell? ⟨gO, 2, none⟩ = some (.int .i64 0) := by simp [World.cell?, hO]
    have of2 : w1.frozen? ⟨gO, 2, none⟩ = false := by simp [World.frozen?, hO]
    have o3 : w1.cell? ⟨gO, 3, none⟩ = some (.int .u64 0) := by simp [World.cell?, hO]
    have of3 : w1.frozen? ⟨gO, 3, none⟩ = false := by simp [World.frozen?, hO]
    have o4 : w1.cell? ⟨gO, 4, none⟩ = some (.slice none 0 0) := by simp [World.cell?, hO]
    have of4 : w1.frozen? ⟨gO, 4, none⟩ = false := by simp [World.frozen?, hO]
    have hO4 : (((((w1.setCell ⟨gO, 0, none⟩ (.int .i64 0)).setCell ⟨gO, 1, none⟩ (.bool false)).setCell ⟨gO, 2, none⟩ (.int .i64 0)).setCell ⟨gO, 3, none⟩ (.int .u64 0)).setCell ⟨gO, 4, none⟩ (.slice none 0 0)).heap[gO]? = some (.cells #[.int .i64 0, .bool false, .int .i64 0, .int .u64 0, .slice none 0 0] 37 (0, 0)) := setAll_all (vs := [.int .i64 0, .bool false, .int .i64 0, .int .u64 0, .slice none 0 0]) hO rfl
    have hB4 : ExtB gA w (((((w1.setCell ⟨gO, 0, none⟩ (.int .i64 0)).setCell ⟨gO, 1, none⟩ (.bool false)).setCell ⟨gO, 2, none⟩ (.int .i64 0)).setCell ⟨gO, 3, none⟩ (.int .u64 0)).setCell ⟨gO, 4, none⟩ (.slice none 0 0)) := ExtB.setAll hB [.int .i64 0, .bool false, .int .i64 0, .int .u64 0, .slice none 0 0] (.inr hgO') 0
    clear hO hB
    go_wp2
    generalize (((((w1.setCell ⟨gO, 0, none⟩ (.int .i64 0)).setCell ⟨gO, 1, none⟩ (.bool false)).setCell ⟨gO, 2, none⟩ (.int .i64 0)).setCell ⟨gO, 3, none⟩ (.int .u64 0)).setCell ⟨gO, 4, none⟩ (.slice none 0 0)) = wo at *
    clear o0 o1 o2 o3 o4 of0 of1 of2 of3 of4
    have o0 : wo.cell? ⟨gO, 0, none⟩ = some (.int .i64 0) := by simp [World.cell?, hO4]
    have o1 : wo.cell? ⟨gO, 1, none⟩ = some (.bool false) := by simp [World.cell?, hO4]
    have o2 : wo.cell? ⟨gO, 2, none⟩ = some (.int .i64 0) := by simp [World.cell?, hO4]
    have o3 : wo.cell? ⟨gO, 3, none⟩ = some (.int .u64 0) := by simp [World.cell?, hO4]
    have o4 : wo.cell? ⟨gO, 4, none⟩ = some (.slice none 0 0) := by simp [World.cell?, hO4]
    refine bodyPost_ret (v := .agg #[.int .i64 0, .bool false, .int .i64 0, .int .u64 0, .slice none 0 0]) (by simp [results, Try.results112, go_sem, o0, o1, o2, o3, o4]) rfl ?_
    rw [← HR.out]
    exact ⟨rfl, hB4⟩
set_option maxRecDepth 100000 in
set_option maxHeartbeats 4000000 in
theorem enext_unpin (gA gL m gT gM gP : Nat) (t me u v d : Int) (ht1 : 0 ≤ t) (ht2 : t ≤ 64) (hm1 : 0 ≤ me) (hm2 : me ≤ 64)  (f : Nat) (rs : List Res) (hf : rs.length < f) (w : World) (hD : DoAt m w gA gL rs) (hU : GoodR rs) (hP : w.heap[gP]? = some (.cells #[.int .i64 4, .int .i64 u, .int .i64 v, .int .u64 d] 24 (0, 0))) (hT : w.heap[gT]? = some (.cells #[.int .i64 t] 3 (0, 0))) (hM : w.heap[gM]? = some (.cells #[.int .i64 me] 3 (0, 0))) (nP : gP ≠ gA) (nT : gT ≠ gA) (nM : gM ≠ gA) :
    Calls Try.prog 112 #[doV gA gL, .pointer (some ⟨gP, 0, none⟩), .pointer (some ⟨gM, 0, none⟩), .pointer (some ⟨gT, 0, none⟩)] w (ENextP ((epochT t me 4 u f).run (stM Res.n) rs) gA w) := by
  have hlA : gA < w.heap.size := hD.sizes.1
  have hb1 : ∀ (W : World) (z : Int), (Instr.build 37 #[(2, .int .i64 z)]).run Try.prog W = .ok (.agg #[.int .i64 0, .bool false, .int .i64 z, .int .u64 0, .slice none 0 0]) W := fun _ _ => by kernel_rfl
  have hb4 : ∀ (W : World) (z : Bool), (Instr.build 37 #[(1, .bool z)]).run Try.prog W = .ok (.agg #[.int .i64 0, .bool z, .int .i64 0, .int .u64 0, .slice none 0 0]) W := fun _ _ => by kernel_rfl
  have hb2 : ∀ (W : World), (Instr.build 37 #[]).run Try.prog W = .ok (.agg #[.int .i64 0, .bool false, .int .i64 0, .int .u64 0, .slice none 0 0]) W := fun _ => by kernel_rfl
  have hb3 : ∀ (W : World), (Instr.build 37 #[(0, .int .i64 1)]).run Try.prog W = .ok (.agg #[.int .i64 1, .bool false, .int .i64 0, .int .u64 0, .slice none 0 0]) W := fun _ => by kernel_rfl
  have hfed := (epochT_fed t me 4 u f rs.length hf).run (l := rs) Res.n
  generalize hR : (epochT t me 4 u f).run (stM Res.n) rs = R at hfed
  go_enter Try.func112, Try.ntmps112
  go_upto_region 1 with (fail)
  have hx0 : Ext w (w.alloc (.cells #[.int .i64 0, .bool false, .int .i64 0, .int .u64 0, .slice none 0 0] 37)) := (Below.refl _ w).alloc (Nat.le_refl _) _
  have hO := heap_alloc_new w (.cells #[.int .i64 0, .bool false, .int .i64 0, .int .u64 0, .slice none 0 0] 37)
  generalize w.alloc (.cells #[.int .i64 0, .bool false, .int .i64 0, .int .u64 0, .slice none 0 0] 37) = W0 at *
  generalize hgO : w.heap.size = gO at *
  replace hP := heap_ext hP hx0
  replace hT := heap_ext hT hx0
  replace hM := heap_ext hM hx0
  replace hD := hD.ext hx0
  have hlA0 : gA < W0.heap.size := hD.sizes.1
  have hB := ExtB.of (g := gA) hx0
  have nO : gO ≠ gA := by omega
  have hgO' := Nat.le_of_eq hgO
  clear hx0 hgO hlA nP nT nM
  have p0 : W0.cell? ⟨gP, 0, none⟩ = some (.int .i64 4) := by simp [World.cell?, hP]
  have p1 : W0.cell? ⟨gP, 1, none⟩ = some (.int .i64 u) := by simp [World.cell?, hP]
  have p2 : W0.cell? ⟨gP, 2, none⟩ = some (.int .i64 v) := by simp [World.cell?, hP]
  have p3 : W0.cell? ⟨gP, 3, none⟩ = some (.int .u64 d) := by simp [World.cell?, hP]
  have c0 : W0.cell? ⟨gT, 0, none⟩ = some (.int .i64 t) := by simp [World.cell?, hT]
  have c1 : W0.cell? ⟨gM, 0, none⟩ = some (.int .i64 me) := by simp [World.cell?, hM]
  clear hP hT hM
  have hE0 : epochT t me 4 u f = (unpinT me).bind fun r => .ret ⟨0, false, 0, 0⟩ := by simp [epochT]
  rw [hE0, PT.run_bind] at hR
  have hto : (unpinT me).run (stM Res.n) rs ≠ .out := fun h => by rw [h] at hR; exact hfed hR.symm
  have hI : LogI gA gL m rs W0 := ⟨hD, hU⟩
  clear hE0
  go_wp2_with fail
  refine (gunpin (log_ok gA gL m) me hm1 hm2 rs W0 hI).mono ?_
  intro e w1 h
  cases hq : (unpinT me).run (stM Res.n) rs with
  | out => exact absurd hq hto
  | stop x =>
    rw [hq] at h hR
    obtain ⟨rfl, hx⟩ := h
    refine ⟨rfl, ?_⟩
    rw [← hR]
    exact ⟨rfl, hB.trans hx⟩
  | ret r q =>
    rw [hq] at h hR
    obtain ⟨rfl, -, hx⟩ := h
    have HR := Lib.hid hR
    replace hO := hx.heap hO nO
    replace hB := hB.trans hx
    clear hx hq hto p0 p1 p2 p3 c0 c1 hI hR hfed
    have o0 : w1.cell? ⟨gO, 0, none⟩ = some (.int .i64 0) := by simp [World.cell?, hO]
    have of0 : w1.frozen? ⟨gO, 0, none⟩ = false := by simp [World.frozen?, hO]
    have o1 : w1.cell? ⟨gO, 1, none⟩ = some (.bool false) := by simp [World.cell?, hO]
    have of1 : w1.frozen? ⟨gO, 1, none⟩ = false := by simp [World.frozen?, hO]
    have o2 : w1.cell? ⟨gO, 2, none⟩ = some (.int .i64 0) := by simp [World.cell?, hO]
    have of2 : w1.frozen? ⟨gO, 2, none⟩ = false := by simp [World.frozen?, hO]
    have o3 : w1.cell? ⟨gO, 3, none⟩ = some (.int .u64 0) := by simp [World.cell?, hO]
    have of3 : w1.frozen? ⟨gO, 3, none⟩ = false := by simp [World.frozen?, hO]
    have o4 : w1.cell? ⟨gO, 4, none⟩ = some (.slice none 0 0) := by simp [World.cell?, hO]
    have of4 : w1.frozen? ⟨gO, 4, none⟩ = false := by simp [World.frozen?, hO]
    have hO4 : (((((w1.setCell ⟨gO, 0, none⟩ (.int .i64 0)).setCell ⟨gO, 1, none⟩ (.bool false)).setCell ⟨gO, 2, none⟩ (.int .i64 0)).setCell ⟨gO, 3, none⟩ (.int .u64 0)).setCell ⟨gO, 4, none⟩ (.slice none 0 0)).heap[gO]? = some (.cells #[.int .i64 0, .bool false, .int .i64 0, .int .u64 0, .slice none 0 0] 37 (0, 0)) := setAll_all (vs := [.int .i64 0, .bool false, .int .i64 0, .int .u64 0, .slice none 0 0]) hO rfl
    have hB4 : ExtB gA w (((((w1.setCell ⟨gO, 0, none⟩ (.int .i64 0)).setCell ⟨gO, 1, none⟩ (.bool false)).setCell ⟨gO, 2, none⟩ (.int .i64 0)).setCell ⟨gO, 3, none⟩ (.int .u64 0)).setCell ⟨gO, 4, none⟩ (.slice none 0 0)) := ExtB.setAll hB [.int .i64 0, .bool false, .int .i64 0, .int .u64 0, .slice none 0 0] (.inr hgO') 0
    clear hO hB
    go_wp2
    generalize (((((w1.setCell ⟨gO, 0, none⟩ (.int .i64 0)).setCell ⟨gO, 1, none⟩ (.bool false)).setCell ⟨gO, 2, none⟩ (.int .i64 0)).setCell ⟨gO, 3, none⟩ (.int .u64 0)).setCell ⟨gO, 4, none⟩ (.slice none 0 0)) = wo at *
    clear o0 o1 o2 o3 o4 of0 of1 of2 of3 of4
    have o0 : wo.cell? ⟨gO, 0, none⟩ = some (.int .i64 0) := by simp [World.cell?, hO4]
    have o1 : wo.cell? ⟨gO, 1, none⟩ = some (.bool false) := by simp [World.cell?, hO4]
    have o2 : wo.cell? ⟨gO, 2, none⟩ = some (.int .i64 0) := by simp [World.cell?, hO4]
    have o3 : wo.cell? ⟨gO, 3, none⟩ = some (.int .u64 0) := by simp [World.cell?, hO4]
    have o4 : wo.cell? ⟨gO, 4, none⟩ = some (.slice none 0 0) := by simp [World.cell?, hO4]
    refine bodyPost_ret (v := .agg #[.int .i64 0, .bool false, .int .i64 0, .int .u64 0, .slice none 0 0]) (by simp [results, Try.results112, go_sem, o0, o1, o2, o3, o4]) rfl ?_
    rw [← HR.out]
    exact ⟨rfl, hB4⟩
set_option maxRecDepth 100000 in
set_option maxHeartbeats 4000000 in
theorem enext_retire (gA gL m gT gM gP : Nat) (t me u v d : Int) (ht1 : 0 ≤ t) (ht2 : t ≤ 64) (hm1 : 0 ≤ me) (hm2 : me ≤ 64) (hu1 : 0 ≤ u) (hu2 : u ≤ 1048576) (f : Nat) (rs : List Res) (hf : rs.length < f) (w : World) (hD : DoAt m w gA gL rs) (hU : GoodR rs) (hP : w.heap[gP]? = some (.cells #[.int .i64 5, .int .i64 u, .int .i64 v, .int .u64 d] 24 (0, 0))) (hT : w.heap[gT]? = some (.cells #[.int .i64 t] 3 (0, 0))) (hM : w.heap[gM]? = some (.cells #[.int .i64 me] 3 (0, 0))) (nP : gP ≠ gA) (nT : gT ≠ gA) (nM : gM ≠ gA) :
    Calls Try.prog 112 #[doV gA gL, .pointer (some ⟨gP, 0, none⟩), .pointer (some ⟨gM, 0, none⟩), .pointer (some ⟨gT, 0, none⟩)] w (ENextP ((epochT t me 5 u f).run (stM Res.n) rs) gA w) := by
  have hlA : gA < w.heap.size := hD.sizes.1
  have hb1 : ∀ (W : World) (z : Int), (Instr.build 37 #[(2, .int .i64 z)]).run Try.prog W = .ok (.agg #[.int .i64 0, .bool false, .int .i64 z, .int .u64 0, .slice none 0 0]) W := fun _ _ => by kernel_rfl
  have hb4 : ∀ (W : World) (z : Bool), (Instr.build 37 #[(1, .bool z)]).run Try.prog W = .ok (.agg #[.int .i64 0, .bool z, .int .i64 0, .int .u64 0, .slice none 0 0]) W := fun _ _ => by kernel_rfl
  have hb2 : ∀ (W : World), (Instr.build 37 #[]).run Try.prog W = .ok (.agg #[.int .i64 0, .bool false, .int .i64 0, .int .u64 0, .slice none 0 0]) W := fun _ => by kernel_rfl
  have hb3 : ∀ (W : World), (Instr.build 37 #[(0, .int .i64 1)]).run Try.prog W = .ok (.agg #[.int .i64 1, .bool false, .int .i64 0, .int .u64 0, .slice none 0 0]) W := fun _ => by kernel_rfl
  have hfed := (epochT_fed t me 5 u f rs.length hf).run (l := rs) Res.n
  generalize hR : (epochT t me 5 u f).run (stM Res.n) rs = R at hfed
  go_enter Try.func112, Try.ntmps112
  go_upto_region 1 with (fail)
  have hx0 : Ext w (w.alloc (.cells #[.int .i64 0, .bool false, .int .i64 0, .int .u64 0, .slice none 0 0] 37)) := (Below.refl _ w).alloc (Nat.le_refl _) _
  have hO := heap_alloc_new w (.cells #[.int .i64 0, .bool false, .int .i64 0, .int .u64 0, .slice none 0 0] 37)
  generalize w.alloc (.cells #[.int .i64 0, .bool false, .int .i64 0, .int .u64 0, .slice none 0 0] 37) = W0 at *
  generalize hgO : w.heap.size = gO at *
  replace hP := heap_ext hP hx0
  replace hT := heap_ext hT hx0
  replace hM := heap_ext hM hx0
  replace hD := hD.ext hx0
  have hlA0 : gA < W0.heap.size := hD.sizes.1
  have hB := ExtB.of (g := gA) hx0
  have nO : gO ≠ gA := by omega
  have hgO' := Nat.le_of_eq hgO
  clear hx0 hgO hlA nP nT nM
  have p0 : W0.cell? ⟨gP, 0, none⟩ = some (.int .i64 5) := by simp [World.cell?, hP]
  have p1 : W0.cell? ⟨gP, 1, none⟩ = some (.int .i64 u) := by simp [World.cell?, hP]
  have p2 : W0.cell? ⟨gP, 2, none⟩ = some (.int .i64 v) := by simp [World.cell?, hP]
  have p3 : W0.cell? ⟨gP, 3, none⟩ = some (.int .u64 d) := by simp [World.cell?, hP]
  have c0 : W0.cell? ⟨gT, 0, none⟩ = some (.int .i64 t) := by simp [World.cell?, hT]
  have c1 : W0.cell? ⟨gM, 0, none⟩ = some (.int .i64 me) := by simp [World.cell?, hM]
  clear hP hT hM
  have hE0 : epochT t me 5 u f = (retireT t u f).bind fun r => .ret ⟨0, false, 0, 0⟩ := by simp [epochT]
  rw [hE0, PT.run_bind] at hR
  have hto : (retireT t u f).run (stM Res.n) rs ≠ .out := fun h => by rw [h] at hR; exact hfed hR.symm
  have hI : LogI gA gL m rs W0 := ⟨hD, hU⟩
  clear hE0
  go_wp2_with fail
  refine (gretire (log_ok gA gL m) t u ht1 ht2 hu1 hu2 f rs W0 hI hto).mono ?_
  intro e w1 h
  cases hq : (retireT t u f).run (stM Res.n) rs with
  | out => exact absurd hq hto
  | stop x =>
    rw [hq] at h hR
    obtain ⟨rfl, hx⟩ := h
    refine ⟨rfl, ?_⟩
    rw [← hR]
    exact ⟨rfl, hB.trans hx⟩
  | ret r q =>
    rw [hq] at h hR
    obtain ⟨rfl, -, hx⟩ := h
    have HR := Lib.hid hR
    replace hO := hx.heap hO nO
    replace hB := hB.trans hx
    clear hx hq hto p0 p1 p2 p3 c0 c1 hI hR hfed
    have o0 : w1.cell? ⟨gO, 0, none⟩ = some (.int .i64 0) := by simp [World.cell?, hO]
    have of0 : w1.frozen? ⟨gO, 0, none⟩ = false := by simp [World.frozen?, hO]
    have o1 : w1.cell? ⟨gO, 1, none⟩ = some (.bool false) := by simp [World.cell?, hO]
    have of1 : w1.frozen? ⟨gO, 1, none⟩ = false := by simp [World.frozen?, hO]
    have o2 : w1.cell? ⟨gO, 2, none⟩ = some (.int .i64 0) := by simp [World.cell?, hO]
    have of2 : w1.frozen? ⟨gO, 2, none⟩ = false := by simp [World.frozen?, hO]
    have o3 : w1.cell? ⟨gO, 3, none⟩ = some (.int .u64 0) := by simp [World.cell?, hO]
    have of3 : w1.frozen? ⟨gO, 3, none⟩ = false := by simp [World.frozen?, hO]
    have o4 : w1.cell? ⟨gO, 4, none⟩ = some (.slice none 0 0) := by simp [World.cell?, hO]
    have of4 : w1.frozen? ⟨gO, 4, none⟩ = false := by simp [World.frozen?, hO]
    have hO4 : (((((w1.setCell ⟨gO, 0, none⟩ (.int .i64 0)).setCell ⟨gO, 1, none⟩ (.bool false)).setCell ⟨gO, 2, none⟩ (.int .i64 0)).setCell ⟨gO, 3, none⟩ (.int .u64 0)).setCell ⟨gO, 4, none⟩ (.slice none 0 0)).heap[gO]? = some (.cells #[.int .i64 0, .bool false, .int .i64 0, .int .u64 0, .slice none 0 0] 37 (0, 0)) := setAll_all (vs := [.int .i64 0, .bool false, .int .i64 0, .int .u64 0, .slice none 0 0]) hO rfl
    have hB4 : ExtB gA w (((((w1.setCell ⟨gO, 0, none⟩ (.int .i64 0)).setCell ⟨gO, 1, none⟩ (.bool false)).setCell ⟨gO, 2, none⟩ (.int .i64 0)).setCell ⟨gO, 3, none⟩ (.int .u64 0)).setCell ⟨gO, 4, none⟩ (.slice none 0 0)) := ExtB.setAll hB [.int .i64 0, .bool false, .int .i64 0, .int .u64 0, .slice none 0 0] (.inr hgO') 0
    clear hO hB
    go_wp2
    generalize (((((w1.setCell ⟨gO, 0, none⟩ (.int .i64 0)).setCell ⟨gO, 1, none⟩ (.bool false)).setCell ⟨gO, 2, none⟩ (.int .i64 0)).setCell ⟨gO, 3, none⟩ (.int .u64 0)).setCell ⟨gO, 4, none⟩ (.slice none 0 0)) = wo at *
    clear o0 o1 o2 o3 o4 of0 of1 of2 of3 of4
    have o0 : wo.cell? ⟨gO, 0, none⟩ = some (.int .i64 0) := by simp [World.cell?, hO4]
    have o1 : wo.cell? ⟨gO, 1, none⟩ = some (.bool false) := by simp [World.cell?, hO4]
    have o2 : wo.cell? ⟨gO, 2, none⟩ = some (.int .i64 0) := by simp [World.cell?, hO4]
    have o3 : wo.cell? ⟨gO, 3, none⟩ = some (.int .u64 0) := by simp [World.cell?, hO4]
    have o4 : wo.cell? ⟨gO, 4, none⟩ = some (.slice none 0 0) := by simp [World.cell?, hO4]
    refine bodyPost_ret (v := .agg #[.int .i64 0, .bool false, .int .i64 0, .int .u64 0, .slice none 0 0]) (by simp [results, Try.results112, go_sem, o0, o1, o2, o3, o4]) rfl ?_
    rw [← HR.out]
    exact ⟨rfl, hB4⟩
set_option maxRecDepth 100000 in
set_option maxHeartbeats 4000000 in
theorem enext_adv (gA gL m gT gM gP : Nat) (t me u v d : Int) (ht1 : 0 ≤ t) (ht2 : t ≤ 64) (hm1 : 0 ≤ me) (hm2 : me ≤ 64)  (f : Nat) (rs : List Res) (hf : rs.length < f) (w : World) (hD : DoAt m w gA gL rs) (hU : GoodR rs) (hP : w.heap[gP]? = some (.cells #[.int .i64 19, .int .i64 u, .int .i64 v, .int .u64 d] 24 (0, 0))) (hT : w.heap[gT]? = some (.cells #[.int .i64 t] 3 (0, 0))) (hM : w.heap[gM]? = some (.cells #[.int .i64 me] 3 (0, 0))) (nP : gP ≠ gA) (nT : gT ≠ gA) (nM : gM ≠ gA) :
    Calls Try.prog 112 #[doV gA gL, .pointer (some ⟨gP, 0, none⟩), .pointer (some ⟨gM, 0, none⟩), .pointer (some ⟨gT, 0, none⟩)] w (ENextP ((epochT t me 19 u f).run (stM Res.n) rs) gA w) := by
  have hlA : gA < w.heap.size := hD.sizes.1
  have hb1 : ∀ (W : World) (z : Int), (Instr.build 37 #[(2, .int .i64 z)]).run Try.prog W = .ok (.agg #[.int .i64 0, .bool false, .int .i64 z, .int .u64 0, .slice none 0 0]) W := fun _ _ => by kernel_rfl
  have hb4 : ∀ (W : World) (z : Bool), (Instr.build 37 #[(1, .bool z)]).run Try.prog W = .ok (.agg #[.int .i64 0, .bool z, .int .i64 0, .int .u64 0, .slice none 0 0]) W := fun _ _ => by kernel_rfl
  have hb2 : ∀ (W : World), (Instr.build 37 #[]).run Try.prog W = .ok (.agg #[.int .i64 0, .bool false, .int .i64 0, .int .u64 0, .slice none 0 0]) W := fun _ => by kernel_rfl
  have hb3 : ∀ (W : World), (Instr.build 37 #[(0, .int .i64 1)]).run Try.prog W = .ok (.agg #[.int .i64 1, .bool false, .int .i64 0, .int .u64 0, .slice none 0 0]) W := fun _ => by kernel_rfl
  have hfed := (epochT_fed t me 19 u f rs.length hf).run (l := rs) Res.n
  generalize hR : (epochT t me 19 u f).run (stM Res.n) rs = R at hfed
  go_enter Try.func112, Try.ntmps112
  go_upto_region 1 with (fail)
  have hx0 : Ext w (w.alloc (.cells #[.int .i64 0, .bool false, .int .i64 0, .int .u64 0, .slice none 0 0] 37)) := (Below.refl _ w).alloc (Nat.le_refl _) _
  have hO := heap_alloc_new w (.cells #[.int .i64 0, .bool false, .int .i64 0, .int .u64 0, .slice none 0 0] 37)
  generalize w.alloc (.cells #[.int .i64 0, .bool false, .int .i64 0, .int .u64 0, .slice none 0 0] 37) = W0 at *
  generalize hgO : w.heap.size = gO at *
  replace hP := heap_ext hP hx0
  replace hT := heap_ext hT hx0
  replace hM := heap_ext hM hx0
  replace hD := hD.ext hx0
  have hlA0 : gA < W0.heap.size := hD.sizes.1
  have hB := ExtB.of (g := gA) hx0
  have nO : gO ≠ gA := by omega
  have hgO' := Nat.le_of_eq hgO
  clear hx0 hgO hlA nP nT nM
  have p0 : W0.cell? ⟨gP, 0, none⟩ = some (.int .i64 19) := by simp [World.cell?, hP]
  have p1 : W0.cell? ⟨gP, 1, none⟩ = some (.int .i64 u) := by simp [World.cell?, hP]
  have p2 : W0.cell? ⟨gP, 2, none⟩ = some (.int .i64 v) := by simp [World.cell?, hP]
  have p3 : W0.cell? ⟨gP, 3, none⟩ = some (.int .u64 d) := by simp [World.cell?, hP]
  have c0 : W0.cell? ⟨gT, 0, none⟩ = some (.int .i64 t) := by simp [World.cell?, hT]
  have c1 : W0.cell? ⟨gM, 0, none⟩ = some (.int .i64 me) := by simp [World.cell?, hM]
  clear hP hT hM
  have hE0 : epochT t me 19 u f = (advT t f).bind fun r => .ret ⟨0, r, 0, 0⟩ := by simp [epochT]
  rw [hE0, PT.run_bind] at hR
  have hto : (advT t f).run (stM Res.n) rs ≠ .out := fun h => by rw [h] at hR; exact hfed hR.symm
  have hI : LogI gA gL m rs W0 := ⟨hD, hU⟩
  clear hE0
  go_wp2_with fail
  refine (gadvance (log_ok gA gL m) (log_away gA gL m) t ht1 ht2 f rs W0 hI hlA0 hto).mono ?_
  intro e w1 h
  cases hq : (advT t f).run (stM Res.n) rs with
  | out => exact absurd hq hto
  | stop x =>
    rw [hq] at h hR
    obtain ⟨rfl, hx⟩ := h
    refine ⟨rfl, ?_⟩
    rw [← hR]
    exact ⟨rfl, hB.trans hx⟩
  | ret r q =>
    rw [hq] at h hR
    obtain ⟨rfl, -, hx⟩ := h
    have HR := Lib.hid hR
    replace hO := hx.heap hO nO
    replace hB := hB.trans hx
    clear hx hq hto p0 p1 p2 p3 c0 c1 hI hR hfed
    have o0 : w1.cell? ⟨gO, 0, none⟩ = some (.int .i64 0) := by simp [World.cell?, hO]
    have of0 : w1.frozen? ⟨gO, 0, none⟩ = false := by simp [World.frozen?, hO]
    have o1 : w1.cell? ⟨gO, 1, none⟩ = some (.bool false) := by simp [World.cell?, hO]
    have of1 : w1.frozen? ⟨gO, 1, none⟩ = false := by simp [World.frozen?, hO]
    have o2 : w1.cell? ⟨gO, 2, none⟩ = some (.int .i64 0) := by simp [World.cell?, hO]
    have of2 : w1.frozen? ⟨gO, 2, none⟩ = false := by simp [World.frozen?, hO]
    have o3 : w1.cell? ⟨gO, 3, none⟩ = some (.int .u64 0) := by simp [World.cell?, hO]
    have of3 : w1.frozen? ⟨gO, 3, none⟩ = false := by simp [World.frozen?, hO]
    have o4 : w1.cell? ⟨gO, 4, none⟩ = some (.slice none 0 0) := by simp [World.cell?, hO]
    have of4 : w1.frozen? ⟨gO, 4, none⟩ = false := by simp [World.frozen?, hO]
    have hO4 : (((((w1.setCell ⟨gO, 0, none⟩ (.int .i64 0)).setCell ⟨gO, 1, none⟩ (.bool r)).setCell ⟨gO, 2, none⟩ (.int .i64 0)).setCell ⟨gO, 3, none⟩ (.int .u64 0)).setCell ⟨gO, 4, none⟩ (.slice none 0 0)).heap[gO]? = some (.cells #[.int .i64 0, .bool r, .int .i64 0, .int .u64 0, .slice none 0 0] 37 (0, 0)) := setAll_all (vs := [.int .i64 0, .bool r, .int .i64 0, .int .u64 0, .slice none 0 0]) hO rfl
    have hB4 : ExtB gA w (((((w1.setCell ⟨gO, 0, none⟩ (.int .i64 0)).setCell ⟨gO, 1, none⟩ (.bool r)).setCell ⟨gO, 2, none⟩ (.int .i64 0)).setCell ⟨gO, 3, none⟩ (.int .u64 0)).setCell ⟨gO, 4, none⟩ (.slice none 0 0)) := ExtB.setAll hB [.int .i64 0, .bool r, .int .i64 0, .int .u64 0, .slice none 0 0] (.inr hgO') 0
    clear hO hB
    go_wp2
    generalize (((((w1.setCell ⟨gO, 0, none⟩ (.int .i64 0)).setCell ⟨gO, 1, none⟩ (.bool r)).setCell ⟨gO, 2, none⟩ (.int .i64 0)).setCell ⟨gO, 3, none⟩ (.int .u64 0)).setCell ⟨gO, 4, none⟩ (.slice none 0 0)) = wo at *
    clear o0 o1 o2 o3 o4 of0 of1 of2 of3 of4
    have o0 : wo.cell? ⟨gO, 0, none⟩ = some (.int .i64 0) := by simp [World.cell?, hO4]
    have o1 : wo.cell? ⟨gO, 1, none⟩ = some (.bool r) := by simp [World.cell?, hO4]
    have o2 : wo.cell? ⟨gO, 2, none⟩ = some (.int .i64 0) := by simp [World.cell?, hO4]
    have o3 : wo.cell? ⟨gO, 3, none⟩ = some (.int .u64 0) := by simp [World.cell?, hO4]
    have o4 : wo.cell? ⟨gO, 4, none⟩ = some (.slice none 0 0) := by simp [World.cell?, hO4]
    refine bodyPost_ret (v := .agg #[.int .i64 0, .bool r, .int .i64 0, .int .u64 0, .slice none 0 0]) (by simp [results, Try.results112, go_sem, o0, o1, o2, o3, o4]) rfl ?_
    rw [← HR.out]
    exact ⟨rfl, hB4⟩
set_option maxRecDepth 100000 in
set_option maxHeartbeats 4000000 in
theorem enext_alloc (gA gL m gT gM gP : Nat) (t me u v d : Int) (ht1 : 0 ≤ t) (ht2 : t ≤ 64) (hm1 : 0 ≤ me) (hm2 : me ≤ 64)  (f : Nat) (rs : List Res) (hf : rs.length < f) (w : World) (hD : DoAt m w gA gL rs) (hU : GoodR rs) (hP : w.heap[gP]? = some (.cells #[.int .i64 6, .int .i64 u, .int .i64 v, .int .u64 d] 24 (0, 0))) (hT : w.heap[gT]? = some (.cells #[.int .i64 t] 3 (0, 0))) (hM : w.heap[gM]? = some (.cells #[.int .i64 me] 3 (0, 0))) (nP : gP ≠ gA) (nT : gT ≠ gA) (nM : gM ≠ gA) :
    Calls Try.prog 112 #[doV gA gL, .pointer (some ⟨gP, 0, none⟩), .pointer (some ⟨gM, 0, none⟩), .pointer (some ⟨gT, 0, none⟩)] w (ENextP ((epochT t me 6 u f).run (stM Res.n) rs) gA w) := by
  have hlA : gA < w.heap.size := hD.sizes.1
  have hb1 : ∀ (W : World) (z : Int), (Instr.build 37 #[(2, .int .i64 z)]).run Try.prog W = .ok (.agg #[.int .i64 0, .bool false, .int .i64 z, .int .u64 0, .slice none 0 0]) W := fun _ _ => by kernel_rfl
  have hb4 : ∀ (W : World) (z : Bool), (Instr.build 37 #[(1, .bool z)]).run Try.prog W = .ok (.agg #[.int .i64 0, .bool z, .int .i64 0, .int .u64 0, .slice none 0 0]) W := fun _ _ => by kernel_rfl
  have hb2 : ∀ (W : World), (Instr.build 37 #[]).run Try.prog W = .ok (.agg #[.int .i64 0, .bool false, .int .i64 0, .int .u64 0, .slice none 0 0]) W := fun _ => by kernel_rfl
  have hb3 : ∀ (W : World), (Instr.build 37 #[(0, .int .i64 1)]).run Try.prog W = .ok (.agg #[.int .i64 1, .bool false, .int .i64 0, .int .u64 0, .slice none 0 0]) W := fun _ => by kernel_rfl
  have hfed := (epochT_fed t me 6 u f rs.length hf).run (l := rs) Res.n
  generalize hR : (epochT t me 6 u f).run (stM Res.n) rs = R at hfed
  go_enter Try.func112, Try.ntmps112
  go_upto_region 1 with (fail)
  have hx0 : Ext w (w.alloc (.cells #[.int .i64 0, .bool false, .int .i64 0, .int .u64 0, .slice none 0 0] 37)) := (Below.refl _ w).alloc (Nat.le_refl _) _
  have hO := heap_alloc_new w (.cells #[.int .i64 0, .bool false, .int .i64 0, .int .u64 0, .slice none 0 0] 37)
  generalize w.alloc (.cells #[.int .i64 0, .bool false, .int .i64 0, .int .u64 0, .slice none 0 0] 37) = W0 at *
  generalize hgO : w.heap.size = gO at *
  replace hP := heap_ext hP hx0
  replace hT := heap_ext hT hx0
  replace hM := heap_ext hM hx0
  replace hD := hD.ext hx0
  have hlA0 : gA < W0.heap.size := hD.sizes.1
  have hB := ExtB.of (g := gA) hx0
  have nO : gO ≠ gA := by omega
  have hgO' := Nat.le_of_eq hgO
  clear hx0 hgO hlA nP nT nM
  have p0 : W0.cell? ⟨gP, 0, none⟩ = some (.int .i64 6) := by simp [World.cell?, hP]
  have p1 : W0.cell? ⟨gP, 1, none⟩ = some (.int .i64 u) := by simp [World.cell?, hP]
  have p2 : W0.cell? ⟨gP, 2, none⟩ = some (.int .i64 v) := by simp [World.cell?, hP]
  have p3 : W0.cell? ⟨gP, 3, none⟩ = some (.int .u64 d) := by simp [World.cell?, hP]
  have c0 : W0.cell? ⟨gT, 0, none⟩ = some (.int .i64 t) := by simp [World.cell?, hT]
  have c1 : W0.cell? ⟨gM, 0, none⟩ = some (.int .i64 me) := by simp [World.cell?, hM]
  clear hP hT hM
  have hE0 : epochT t me 6 u f = (allocT t me f).bind fun r => .ret ⟨0, false, r, 0⟩ := by simp [epochT]
  rw [hE0, PT.run_bind] at hR
  have hto : (allocT t me f).run (stM Res.n) rs ≠ .out := fun h => by rw [h] at hR; exact hfed hR.symm
  have hI : LogI gA gL m rs W0 := ⟨hD, hU⟩
  clear hE0
  go_wp2_with fail
  refine (galloc (log_ok gA gL m) (log_away gA gL m) t me ht1 ht2 hm1 hm2 f rs W0 hI hlA0 hto).mono ?_
  intro e w1 h
  cases hq : (allocT t me f).run (stM Res.n) rs with
  | out => exact absurd hq hto
  | stop x =>
    rw [hq] at h hR
    obtain ⟨rfl, hx⟩ := h
    refine ⟨rfl, ?_⟩
    rw [← hR]
    exact ⟨rfl, hB.trans hx⟩
  | ret r q =>
    rw [hq] at h hR
    obtain ⟨rfl, -, hx⟩ := h
    have HR := Lib.hid hR
    replace hO := hx.heap hO nO
    replace hB := hB.trans hx
    clear hx hq hto p0 p1 p2 p3 c0 c1 hI hR hfed
    have o0 : w1.cell? ⟨gO, 0, none⟩ = some (.int .i64 0) := by simp [World.cell?, hO]
    have of0 : w1.frozen? ⟨gO, 0, none⟩ = false := by simp [World.frozen?, hO]
    have o1 : w1.cell? ⟨gO, 1, none⟩ = some (.bool false) := by simp [World.cell?, hO]
    have of1 : w1.frozen? ⟨gO, 1, none⟩ = false := by simp [World.frozen?, hO]
    have o2 : w1.cell? ⟨gO, 2, none⟩ = some (.int .i64 0) := by simp [World.cell?, hO]
    have of2 : w1.frozen? ⟨gO, 2, none⟩ = false := by simp [World.frozen?, hO]
    have o3 : w1.cell? ⟨gO, 3, none⟩ = some (.int .u64 0) := by simp [World.cell?, hO]
    have of3 : w1.frozen? ⟨gO, 3, none⟩ = false := by simp [World.frozen?, hO]
    have o4 : w1.cell? ⟨gO, 4, none⟩ = some (.slice none 0 0) := by simp [World.cell?, hO]
    have of4 : w1.frozen? ⟨gO, 4, none⟩ = false := by simp [World.frozen?, hO]
    have hO4 : (((((w1.setCell ⟨gO, 0, none⟩ (.int .i64 0)).setCell ⟨gO, 1, none⟩ (.bool false)).setCell ⟨gO, 2, none⟩ (.int .i64 r)).setCell ⟨gO, 3, none⟩ (.int .u64 0)).setCell ⟨gO, 4, none⟩ (.slice none 0 0)).heap[gO]? = some (.cells #[.int .i64 0, .bool false, .int .i64 r, .int .u64 0, .slice none 0 0] 37 (0, 0)) := setAll_all (vs := [.int .i64 0, .bool false, .int .i64 r, .int .u64 0, .slice none 0 0]) hO rfl
    have hB4 : ExtB gA w (((((w1.setCell ⟨gO, 0, none⟩ (.int .i64 0)).setCell ⟨gO, 1, none⟩ (.bool false)).setCell ⟨gO, 2, none⟩ (.int .i64 r)).setCell ⟨gO, 3, none⟩ (.int .u64 0)).setCell ⟨gO, 4, none⟩ (.slice none 0 0)) := ExtB.setAll hB [.int .i64 0, .bool false, .int .i64 r, .int .u64 0, .slice none 0 0] (.inr hgO') 0
    clear hO hB
    go_wp2
    generalize (((((w1.setCell ⟨gO, 0, none⟩ (.int .i64 0)).setCell ⟨gO, 1, none⟩ (.bool false)).setCell ⟨gO, 2, none⟩ (.int .i64 r)).setCell ⟨gO, 3, none⟩ (.int .u64 0)).setCell ⟨gO, 4, none⟩ (.slice none 0 0)) = wo at *
    clear o0 o1 o2 o3 o4 of0 of1 of2 of3 of4
    have o0 : wo.cell? ⟨gO, 0, none⟩ = some (.int .i64 0) := by simp [World.cell?, hO4]
    have o1 : wo.cell? ⟨gO, 1, none⟩ = some (.bool false) := by simp [World.cell?, hO4]
    have o2 : wo.cell? ⟨gO, 2, none⟩ = some (.int .i64 r) := by simp [World.cell?, hO4]
    have o3 : wo.cell? ⟨gO, 3, none⟩ = some (.int .u64 0) := by simp [World.cell?, hO4]
    have o4 : wo.cell? ⟨gO, 4, none⟩ = some (.slice none 0 0) := by simp [World.cell?, hO4]
    refine bodyPost_ret (v := .agg #[.int .i64 0, .bool false, .int .i64 r, .int .u64 0, .slice none 0 0]) (by simp [results, Try.results112, go_sem, o0, o1, o2, o3, o4]) rfl ?_
    rw [← HR.out]
    exact ⟨rfl, hB4⟩
set_option maxRecDepth 100000 in
set_option maxHeartbeats 4000000 in
theorem enext_no (gA gL m gT gM gP : Nat) (t me k u v d : Int) (ht1 : 0 ≤ t) (ht2 : t ≤ 64) (hm1 : 0 ≤ me) (hm2 : me ≤ 64) (k3 : ¬ k = 3) (k4 : ¬ k = 4) (k5 : ¬ k = 5) (k19 : ¬ k = 19) (k6 : ¬ k = 6) (f : Nat) (rs : List Res) (hf : rs.length < f) (w : World) (hD : DoAt m w gA gL rs) (hU : GoodR rs) (hP : w.heap[gP]? = some (.cells #[.int .i64 k, .int .i64 u, .int .i64 v, .int .u64 d] 24 (0, 0))) (hT : w.heap[gT]? = some (.cells #[.int .i64 t] 3 (0, 0))) (hM : w.heap[gM]? = some (.cells #[.int .i64 me] 3 (0, 0))) (nP : gP ≠ gA) (nT : gT ≠ gA) (nM : gM ≠ gA) :
    Calls Try.prog 112 #[doV gA gL, .pointer (some ⟨gP, 0, none⟩), .pointer (some ⟨gM, 0, none⟩), .pointer (some ⟨gT, 0, none⟩)] w (ENextP ((epochT t me k u f).run (stM Res.n) rs) gA w) := by
  have hlA : gA < w.heap.size := hD.sizes.1
  have hb1 : ∀ (W : World) (z : Int), (Instr.build 37 #[(2, .int .i64 z)]).run Try.prog W = .ok (.agg #[.int .i64 0, .bool false, .int .i64 z, .int .u64 0, .slice none 0 0]) W := fun _ _ => by kernel_rfl
  have hb4 : ∀ (W : World) (z : Bool), (Instr.build 37 #[(1, .bool z)]).run Try.prog W = .ok (.agg #[.int .i64 0, .bool z, .int .i64 0, .int .u64 0, .slice none 0 0]) W := fun _ _ => by kernel_rfl
  have hb2 : ∀ (W : World), (Instr.build 37 #[]).run Try.prog W = .ok (.agg #[.int .i64 0, .bool false, .int .i64 0, .int .u64 0, .slice none 0 0]) W := fun _ => by kernel_rfl
  have hb3 : ∀ (W : World), (Instr.build 37 #[(0, .int .i64 1)]).run Try.prog W = .ok (.agg #[.int .i64 1, .bool false, .int .i64 0, .int .u64 0, .slice none 0 0]) W := fun _ => by kernel_rfl
  have hfed := (epochT_fed t me k u f rs.length hf).run (l := rs) Res.n
  generalize hR : (epochT t me k u f).run (stM Res.n) rs = R at hfed
  go_enter Try.func112, Try.ntmps112
  go_upto_region 1 with (fail)
  have hx0 : Ext w (w.alloc (.cells #[.int .i64 0, .bool false, .int .i64 0, .int .u64 0, .slice none 0 0] 37)) := (Below.refl _ w).alloc (Nat.le_refl _) _
  have hO := heap_alloc_new w (.cells #[.int .i64 0, .bool false, .int .i64 0, .int .u64 0, .slice none 0 0] 37)
  generalize w.alloc (.cells #[.int .i64 0, .bool false, .int .i64 0, .int .u64 0, .slice none 0 0] 37) = W0 at *
  generalize hgO : w.heap.size = gO at *
  replace hP := heap_ext hP hx0
  replace hT := heap_ext hT hx0
  replace hM := heap_ext hM hx0
  replace hD := hD.ext hx0
  have hlA0 : gA < W0.heap.size := hD.sizes.1
  have hB := ExtB.of (g := gA) hx0
  have nO : gO ≠ gA := by omega
  have hgO' := Nat.le_of_eq hgO
  clear hx0 hgO hlA nP nT nM
  have p0 : W0.cell? ⟨gP, 0, none⟩ = some (.int .i64 k) := by simp [World.cell?, hP]
  have p1 : W0.cell? ⟨gP, 1, none⟩ = some (.int .i64 u) := by simp [World.cell?, hP]
  have p2 : W0.cell? ⟨gP, 2, none⟩ = some (.int .i64 v) := by simp [World.cell?, hP]
  have p3 : W0.cell? ⟨gP, 3, none⟩ = some (.int .u64 d) := by simp [World.cell?, hP]
  have c0 : W0.cell? ⟨gT, 0, none⟩ = some (.int .i64 t) := by simp [World.cell?, hT]
  have c1 : W0.cell? ⟨gM, 0, none⟩ = some (.int .i64 me) := by simp [World.cell?, hM]
  clear hP hT hM
  have hE0 : epochT t me k u f = .ret ⟨1, false, 0, 0⟩ := by simp [epochT, k3, k4, k5, k19, k6]
  rw [hE0] at hR
  simp only [PT.run] at hR
  have HR := Lib.hid hR
  clear hR hE0 hfed
  have kb3 : (k == 3) = false := by simp [k3]
  have kb4 : (k == 4) = false := by simp [k4]
  have kb5 : (k == 5) = false := by simp [k5]
  have kb19 : (k == 19) = false := by simp [k19]
  have kb6 : (k == 6) = false := by simp [k6]
  have o0 : W0.cell? ⟨gO, 0, none⟩ = some (.int .i64 0) := by simp [World.cell?, hO]
  have of0 : W0.frozen? ⟨gO, 0, none⟩ = false := by simp [World.frozen?, hO]
  have o1 : W0.cell? ⟨gO, 1, none⟩ = some (.bool false) := by simp [World.cell?, hO]
  have of1 : W0.frozen? ⟨gO, 1, none⟩ = false := by simp [World.frozen?, hO]
  have o2 : W0.cell? ⟨gO, 2, none⟩ = some (.int .i64 0) := by simp [World.cell?, hO]
  have of2 : W0.frozen? ⟨gO, 2, none⟩ = false := by simp [World.frozen?, hO]
  have o3 : W0.cell? ⟨gO, 3, none⟩ = some (.int .u64 0) := by simp [World.cell?, hO]
  have of3 : W0.frozen? ⟨gO, 3, none⟩ = false := by simp [World.frozen?, hO]
  have o4 : W0.cell? ⟨gO, 4, none⟩ = some (.slice none 0 0) := by simp [World.cell?, hO]
  have of4 : W0.frozen? ⟨gO, 4, none⟩ = false := by simp [World.frozen?, hO]
  have hO4 : (((((W0.setCell ⟨gO, 0, none⟩ (.int .i64 1)).setCell ⟨gO, 1, none⟩ (.bool false)).setCell ⟨gO, 2, none⟩ (.int .i64 0)).setCell ⟨gO, 3, none⟩ (.int .u64 0)).setCell ⟨gO, 4, none⟩ (.slice none 0 0)).heap[gO]? = some (.cells #[.int .i64 1, .bool false, .int .i64 0, .int .u64 0, .slice none 0 0] 37 (0, 0)) := setAll_all (vs := [.int .i64 1, .bool false, .int .i64 0, .int .u64 0, .slice none 0 0]) hO rfl
  have hB4 : ExtB gA w (((((W0.setCell ⟨gO, 0, none⟩ (.int .i64 1)).setCell ⟨gO, 1, none⟩ (.bool false)).setCell ⟨gO, 2, none⟩ (.int .i64 0)).setCell ⟨gO, 3, none⟩ (.int .u64 0)).setCell ⟨gO, 4, none⟩ (.slice none 0 0)) := ExtB.setAll hB [.int .i64 1, .bool false, .int .i64 0, .int .u64 0, .slice none 0 0] (.inr hgO') 0
  clear hO hB
  go_wp2
  generalize (((((W0.setCell ⟨gO, 0, none⟩ (.int .i64 1)).setCell ⟨gO, 1, none⟩ (.bool false)).setCell ⟨gO, 2, none⟩ (.int .i64 0)).setCell ⟨gO, 3, none⟩ (.int .u64 0)).setCell ⟨gO, 4, none⟩ (.slice none 0 0)) = wo at *
  clear o0 o1 o2 o3 o4 of0 of1 of2 of3 of4
  have o0 : wo.cell? ⟨gO, 0, none⟩ = some (.int .i64 1) := by simp [World.cell?, hO4]
  have o1 : wo.cell? ⟨gO, 1, none⟩ = some (.bool false) := by simp [World.cell?, hO4]
  have o2 : wo.cell? ⟨gO, 2, none⟩ = some (.int .i64 0) := by simp [World.cell?, hO4]
  have o3 : wo.cell? ⟨gO, 3, none⟩ = some (.int .u64 0) := by simp [World.cell?, hO4]
  have o4 : wo.cell? ⟨gO, 4, none⟩ = some (.slice none 0 0) := by simp [World.cell?, hO4]
  refine bodyPost_ret (v := .agg #[.int .i64 1, .bool false, .int .i64 0, .int .u64 0, .slice none 0 0]) (by simp [results, Try.results112, go_sem, o0, o1, o2, o3, o4]) rfl ?_
  rw [← HR.out]
  exact ⟨rfl, hB4⟩
theorem enext_prog (gA gL m gT gM gP : Nat) (t me k u v d : Int) (ht1 : 0 ≤ t) (ht2 : t ≤ 64) (hm1 : 0 ≤ me) (hm2 : me ≤ 64) (hu : k = 5 → 0 ≤ u ∧ u ≤ 1048576) (f : Nat) (rs : List Res) (hf : rs.length < f) (w : World) (hD : DoAt m w gA gL rs) (hU : GoodR rs) (hP : w.heap[gP]? = some (.cells #[.int .i64 k, .int .i64 u, .int .i64 v, .int .u64 d] 24 (0, 0))) (hT : w.heap[gT]? = some (.cells #[.int .i64 t] 3 (0, 0))) (hM : w.heap[gM]? = some (.cells #[.int .i64 me] 3 (0, 0))) (nP : gP ≠ gA) (nT : gT ≠ gA) (nM : gM ≠ gA) :
    Calls Try.prog 112 #[doV gA gL, .pointer (some ⟨gP, 0, none⟩), .pointer (some ⟨gM, 0, none⟩), .pointer (some ⟨gT, 0, none⟩)] w (ENextP ((epochT t me k u f).run (stM Res.n) rs) gA w) := by
  by_cases k3 : k = 3
  · subst k3; exact enext_pin gA gL m gT gM gP t me u v d ht1 ht2 hm1 hm2 f rs hf w hD hU hP hT hM nP nT nM
  by_cases k4 : k = 4
  · subst k4; exact enext_unpin gA gL m gT gM gP t me u v d ht1 ht2 hm1 hm2 f rs hf w hD hU hP hT hM nP nT nM
  by_cases k5 : k = 5
  · subst k5; exact enext_retire gA gL m gT gM gP t me u v d ht1 ht2 hm1 hm2 (hu rfl).1 (hu rfl).2 f rs hf w hD hU hP hT hM nP nT nM
  by_cases k19 : k = 19
  · subst k19; exact enext_adv gA gL m gT gM gP t me u v d ht1 ht2 hm1 hm2 f rs hf w hD hU hP hT hM nP nT nM
  by_cases k6 : k = 6
  · subst k6; exact enext_alloc gA gL m gT gM gP t me u v d ht1 ht2 hm1 hm2 f rs hf w hD hU hP hT hM nP nT nM
  exact enext_no gA gL m gT gM gP t me k u v d ht1 ht2 hm1 hm2 k3 k4 k5 k19 k6 f rs hf w hD hU hP hT hM nP nT nM
theorem boxes5e (w : World) (o0 o1 o2 o3 o4 : Obj) :
    Ext w (((((w.alloc o0).alloc o1).alloc o2).alloc o3).alloc o4) ∧ (((((w.alloc o0).alloc o1).alloc o2).alloc o3).alloc o4).heap[w.heap.size]? = some o0 ∧ (((((w.alloc o0).alloc o1).alloc o2).alloc o3).alloc o4).heap[w.heap.size + 1]? = some o1 ∧
      (((((w.alloc o0).alloc o1).alloc o2).alloc o3).alloc o4).heap[w.heap.size + 1 + 1]? = some o2 ∧ (((((w.alloc o0).alloc o1).alloc o2).alloc o3).alloc o4).heap[w.heap.size + 1 + 1 + 1]? = some o3 ∧ (((((w.alloc o0).alloc o1).alloc o2).alloc o3).alloc o4).heap[w.heap.size + 1 + 1 + 1 + 1]? = some o4 := by
  obtain ⟨h, h0, h1, h2, h3⟩ := boxes4n w o0 o1 o2 o3
  have hx : Ext ((((w.alloc o0).alloc o1).alloc o2).alloc o3) (((((w.alloc o0).alloc o1).alloc o2).alloc o3).alloc o4) := (Below.refl _ _).alloc (Nat.le_refl _) _
  have h4 := heap_alloc_new ((((w.alloc o0).alloc o1).alloc o2).alloc o3) o4
  rw [show ((((w.alloc o0).alloc o1).alloc o2).alloc o3).heap.size = w.heap.size + 1 + 1 + 1 + 1 by simp] at h4
  exact ⟨h.trans hx, heap_ext h0 hx, heap_ext h1 hx, heap_ext h2 hx, heap_ext h3 hx, h4⟩
/-- what play.Run answers of it -/
theorem erun_any (f : Nat) (t me k u v d : Int) (ht1 : 0 ≤ t) (ht2 : t ≤ 64) (hm1 : 0 ≤ me) (hm2 : me ≤ 64) (hu : k = 5 → 0 ≤ u ∧ u ≤ 1048576) (B : Option Addr) (n kc : Nat) (rs : List Res) (hf : rs.length < f) (W : World) (gT gM gP : Nat) (hlog : LogV W B n kc rs) (hU : GoodR rs) (hT : W.heap[gT]? = some (.cells #[.int .i64 t] 3 (0, 0))) (hM : W.heap[gM]? = some (.cells #[.int .i64 me] 3 (0, 0))) (hP : W.heap[gP]? = some (.cells #[.int .i64 k, .int .i64 u, .int .i64 v, .int .u64 d] 24 (0, 0))) :
    Calls Try.prog 104 #[.func (.func 112) #[] #[.pointer (some ⟨gP, 0, none⟩), .pointer (some ⟨gM, 0, none⟩), .pointer (some ⟨gT, 0, none⟩)], .slice B n kc] W fun e w' =>
      e = (nextT (epochT t me k u f) (rs.map Res.n)).fin ∧ Ext W w' := by
  have hlT := (Array.getElem?_eq_some_iff.1 hT).1
  have hlM := (Array.getElem?_eq_some_iff.1 hM).1
  have hlP := (Array.getElem?_eq_some_iff.1 hP).1
  have hmap := run_stL_map (T := epochT t me k u f) (rs := rs)
  have hfed := (epochT_fed t me k u f rs.length hf).run (l := rs) Res.n
  have hprog := fun (gA gL : Nat) (W' : World) (hx : Ext W W') (h1 : W.heap.size ≤ gA) (hD : DoAt W.heap.size W' gA gL rs) => enext_prog gA gL _ gT gM gP t me k u v d ht1 ht2 hm1 hm2 hu f rs hf W' hD hU (heap_ext hP hx) (heap_ext hT hx) (heap_ext hM hx) (by omega) (by omega) (by omega)
  cases hN : (epochT t me k u f).run (stM Res.n) rs with
  | out => exact absurd hN hfed
  | stop x =>
    rw [hN] at hmap
    have e1 : nextT (epochT t me k u f) (rs.map Res.n) = .stop x.acc := by unfold nextT; rw [hmap]
    rw [e1]
    refine run_stop 112 #[.pointer (some ⟨gP, 0, none⟩), .pointer (some ⟨gM, 0, none⟩), .pointer (some ⟨gT, 0, none⟩)] B n kc rs x.acc W hlog Try.call112 fun gA gL W' hx h1 h2 hD => (hprog gA gL W' hx h1 hD).mono ?_
    intro e w' h
    rw [hN] at h
    exact h
  | ret o s' =>
    rw [hN] at hmap
    have e1 : nextT (epochT t me k u f) (rs.map Res.n) = .done o := by unfold nextT; rw [hmap]
    rw [e1]
    refine run_done 112 #[.pointer (some ⟨gP, 0, none⟩), .pointer (some ⟨gM, 0, none⟩), .pointer (some ⟨gT, 0, none⟩)] B n kc rs o W hlog Try.call112 fun gA gL W' hx h1 h2 hD => (hprog gA gL W' hx h1 hD).mono ?_
    intro e w' h
    rw [hN] at h
    exact h
set_option maxRecDepth 100000 in
set_option maxHeartbeats 4000000 in
theorem enext_any (f : Nat) (t c me k u v d : Int) (ht1 : 0 ≤ t) (ht2 : t ≤ 64) (hm1 : 0 ≤ me) (hm2 : me ≤ 64) (hu : k = 5 → 0 ≤ u ∧ u ≤ 1048576) (B : Option Addr) (n kc : Nat) (rs : List Res) (hf : rs.length < f) (w : World) (hlog : LogV w B n kc rs) (hU : GoodR rs) (hx : ∀ x, nextT (epochT t me k u f) (rs.map Res.n) = .stop x → ∃ a : Ask, x = a.acc ∧ a.Ok) :
    Calls Try.prog 17 #[.int .i64 t, .int .i64 c, .int .i64 me, .agg #[.int .i64 k, .int .i64 u, .int .i64 v, .int .u64 d], .slice B n kc] w fun e w' => e = (nextT (epochT t me k u f) (rs.map Res.n)).fin ∧ Ext w w' := by
  have hmf : ∀ (fn : Fn) (first cap : Array Value) (w : World), (Instr.makeFunc fn first cap).run Try.prog w = .ok (.func fn first cap) w := fun _ _ _ _ => rfl
  have hrun := fun W gT gM gP h1 h2 h3 h4 => erun_any f t me k u v d ht1 ht2 hm1 hm2 hu B n kc rs hf W gT gM gP h1 hU h2 h3 h4
  generalize nextT (epochT t me k u f) (rs.map Res.n) = E at *
  go_enter Try.func17, Try.ntmps17
  go_upto_region 1 with (fail)
  obtain ⟨hW, hT, hM, hP, hE, hO⟩ := boxes5e w (.cells #[.int .i64 t] 3) (.cells #[.int .i64 me] 3) (.cells #[.int .i64 k, .int .i64 u, .int .i64 v, .int .u64 d] 24) (.cells #[.int .i64 0, .int .i64 0, .int .u64 0, .int .u64 0, .slice none 0 0, .slice none 0 0] 33) (.cells #[.int .i64 0, .bool false, .int .i64 0, .int .u64 0, .slice none 0 0] 37)
  generalize ((((w.alloc (.cells #[.int .i64 t] 3)).alloc (.cells #[.int .i64 me] 3)).alloc (.cells #[.int .i64 k, .int .i64 u, .int .i64 v, .int .u64 d] 24)).alloc (.cells #[.int .i64 0, .int .i64 0, .int .u64 0, .int .u64 0, .slice none 0 0, .slice none 0 0] 33)).alloc (.cells #[.int .i64 0, .bool false, .int .i64 0, .int .u64 0, .slice none 0 0] 37) = W at *
  have hlt : w.heap.size + 1 + 1 + 1 + 1 < W.heap.size := (Array.getElem?_eq_some_iff.1 hO).1
  have hrun2 := hrun W _ _ _ (hlog.ext hW) hT hM hP
  clear hrun
  go_wp2_with fail
  refine hrun2.mono ?_
  rintro e w1 ⟨he, hx2⟩
  obtain ⟨x0, x1, x2, x3, x4, x5, x6, x7, x8, x9, o0, o1, o2, o3, b, hend⟩ : ∃ x0 x1 x2 x3 x4 x5 x6 x7 x8 x9 o0 o1 o2 o3 b, E.fin = .returned (.tuple #[.agg #[.int .i64 x0, .int .i64 x1, .int .u64 x2, .int .u64 x3, .slice x4 x5 x6, .slice x7 x8 x9], .agg #[.int .i64 o0, .bool o1, .int .i64 o2, .int .u64 o3, .slice none 0 0], .bool b]) := by
    cases E with
    | stop x => exact ⟨_, _, _, _, _, _, _, _, _, _, _, _, _, _, _, rfl⟩
    | done o => exact ⟨_, _, _, _, _, _, _, _, _, _, _, _, _, _, _, rfl⟩
  rw [hend] at he
  subst he
  have hE1 := heap_ext hE hx2
  have hO1 := heap_ext hO hx2
  have hx1 := hW.trans hx2
  have HE := Lib.hid hend
  clear hE hO hP hT hM hx hW hlog hrun2 hend hx2
  have e0 : w1.cell? ⟨w.heap.size + 1 + 1 + 1, 0, none⟩ = some (.int .i64 0) := by simp [World.cell?, hE1]
  have ef0 : w1.frozen? ⟨w.heap.size + 1 + 1 + 1, 0, none⟩ = false := by simp [World.frozen?, hE1]
  have e1 : w1.cell? ⟨w.heap.size + 1 + 1 + 1, 1, none⟩ = some (.int .i64 0) := by simp [World.cell?, hE1]
  have ef1 : w1.frozen? ⟨w.heap.size + 1 + 1 + 1, 1, none⟩ = false := by simp [World.frozen?, hE1]
  have e2 : w1.cell? ⟨w.heap.size + 1 + 1 + 1, 2, none⟩ = some (.int .u64 0) := by simp [World.cell?, hE1]
  have ef2 : w1.frozen? ⟨w.heap.size + 1 + 1 + 1, 2, none⟩ = false := by simp [World.frozen?, hE1]
  have e3 : w1.cell? ⟨w.heap.size + 1 + 1 + 1, 3, none⟩ = some (.int .u64 0) := by simp [World.cell?, hE1]
  have ef3 : w1.frozen? ⟨w.heap.size + 1 + 1 + 1, 3, none⟩ = false := by simp [World.frozen?, hE1]
  have e4 : w1.cell? ⟨w.heap.size + 1 + 1 + 1, 4, none⟩ = some (.slice none 0 0) := by simp [World.cell?, hE1]
  have ef4 : w1.frozen? ⟨w.heap.size + 1 + 1 + 1, 4, none⟩ = false := by simp [World.frozen?, hE1]
  have e5 : w1.cell? ⟨w.heap.size + 1 + 1 + 1, 5, none⟩ = some (.slice none 0 0) := by simp [World.cell?, hE1]
  have ef5 : w1.frozen? ⟨w.heap.size + 1 + 1 + 1, 5, none⟩ = false := by simp [World.frozen?, hE1]
  have q0 : w1.cell? ⟨w.heap.size + 1 + 1 + 1 + 1, 0, none⟩ = some (.int .i64 0) := by simp [World.cell?, hO1]
  have qf0 : w1.frozen? ⟨w.heap.size + 1 + 1 + 1 + 1, 0, none⟩ = false := by simp [World.frozen?, hO1]
  have q1 : w1.cell? ⟨w.heap.size + 1 + 1 + 1 + 1, 1, none⟩ = some (.bool false) := by simp [World.cell?, hO1]
  have qf1 : w1.frozen? ⟨w.heap.size + 1 + 1 + 1 + 1, 1, none⟩ = false := by simp [World.frozen?, hO1]
  have q2 : w1.cell? ⟨w.heap.size + 1 + 1 + 1 + 1, 2, none⟩ = some (.int .i64 0) := by simp [World.cell?, hO1]
  have qf2 : w1.frozen? ⟨w.heap.size + 1 + 1 + 1 + 1, 2, none⟩ = false := by simp [World.frozen?, hO1]
  have q3 : w1.cell? ⟨w.heap.size + 1 + 1 + 1 + 1, 3, none⟩ = some (.int .u64 0) := by simp [World.cell?, hO1]
  have qf3 : w1.frozen? ⟨w.heap.size + 1 + 1 + 1 + 1, 3, none⟩ = false := by simp [World.frozen?, hO1]
  have q4 : w1.cell? ⟨w.heap.size + 1 + 1 + 1 + 1, 4, none⟩ = some (.slice none 0 0) := by simp [World.cell?, hO1]
  have qf4 : w1.frozen? ⟨w.heap.size + 1 + 1 + 1 + 1, 4, none⟩ = false := by simp [World.frozen?, hO1]
  have hPm : (setAll (w.heap.size + 1 + 1 + 1 + 1) 0 [.int .i64 o0, .bool o1, .int .i64 o2, .int .u64 o3, .slice none 0 0] (setAll (w.heap.size + 1 + 1 + 1) 0 [.int .i64 x0, .int .i64 x1, .int .u64 x2, .int .u64 x3, .slice x4 x5 x6, .slice x7 x8 x9] w1)).heap[w.heap.size + 1 + 1 + 1 + 1]? = some (.cells #[.int .i64 o0, .bool o1, .int .i64 o2, .int .u64 o3, .slice none 0 0] 37 (0, 0)) := setAll_all (vs := [.int .i64 o0, .bool o1, .int .i64 o2, .int .u64 o3, .slice none 0 0]) ((setAll_other (g := w.heap.size + 1 + 1 + 1) (by omega) [.int .i64 x0, .int .i64 x1, .int .u64 x2, .int .u64 x3, .slice x4 x5 x6, .slice x7 x8 x9] 0 w1).trans hO1) rfl
  have hEm : (setAll (w.heap.size + 1 + 1 + 1 + 1) 0 [.int .i64 o0, .bool o1, .int .i64 o2, .int .u64 o3, .slice none 0 0] (setAll (w.heap.size + 1 + 1 + 1) 0 [.int .i64 x0, .int .i64 x1, .int .u64 x2, .int .u64 x3, .slice x4 x5 x6, .slice x7 x8 x9] w1)).heap[w.heap.size + 1 + 1 + 1]? = some (.cells #[.int .i64 x0, .int .i64 x1, .int .u64 x2, .int .u64 x3, .slice x4 x5 x6, .slice x7 x8 x9] 33 (0, 0)) := (setAll_other (g := w.heap.size + 1 + 1 + 1 + 1) (by omega) [.int .i64 o0, .bool o1, .int .i64 o2, .int .u64 o3, .slice none 0 0] 0 (setAll (w.heap.size + 1 + 1 + 1) 0 [.int .i64 x0, .int .i64 x1, .int .u64 x2, .int .u64 x3, .slice x4 x5 x6, .slice x7 x8 x9] w1)).trans (setAll_all (vs := [.int .i64 x0, .int .i64 x1, .int .u64 x2, .int .u64 x3, .slice x4 x5 x6, .slice x7 x8 x9]) hE1 rfl)
  have hF : Ext w (setAll (w.heap.size + 1 + 1 + 1 + 1) 0 [.int .i64 o0, .bool o1, .int .i64 o2, .int .u64 o3, .slice none 0 0] (setAll (w.heap.size + 1 + 1 + 1) 0 [.int .i64 x0, .int .i64 x1, .int .u64 x2, .int .u64 x3, .slice x4 x5 x6, .slice x7 x8 x9] w1)) := setAll_ext (g := w.heap.size + 1 + 1 + 1 + 1) (setAll_ext (g := w.heap.size + 1 + 1 + 1) hx1 (by omega)) (by omega)
  simp only [setAll] at hPm hEm hF
  clear hE1 hO1 hx1
  go_wp2
  generalize (((((((((((w1.setCell ⟨w.heap.size + 1 + 1 + 1, 0, none⟩ (.int .i64 x0)).setCell ⟨w.heap.size + 1 + 1 + 1, 1, none⟩ (.int .i64 x1)).setCell ⟨w.heap.size + 1 + 1 + 1, 2, none⟩ (.int .u64 x2)).setCell ⟨w.heap.size + 1 + 1 + 1, 3, none⟩ (.int .u64 x3)).setCell ⟨w.heap.size + 1 + 1 + 1, 4, none⟩ (.slice x4 x5 x6)).setCell ⟨w.heap.size + 1 + 1 + 1, 5, none⟩ (.slice x7 x8 x9)).setCell ⟨w.heap.size + 1 + 1 + 1 + 1, 0, none⟩ (.int .i64 o0)).setCell ⟨w.heap.size + 1 + 1 + 1 + 1, 1, none⟩ (.bool o1)).setCell ⟨w.heap.size + 1 + 1 + 1 + 1, 2, none⟩ (.int .i64 o2)).setCell ⟨w.heap.size + 1 + 1 + 1 + 1, 3, none⟩ (.int .u64 o3)).setCell ⟨w.heap.size + 1 + 1 + 1 + 1, 4, none⟩ (.slice none 0 0)) = wf at *
  clear e0 e1 e2 e3 e4 e5 ef0 ef1 ef2 ef3 ef4 ef5 q0 q1 q2 q3 q4 qf0 qf1 qf2 qf3 qf4
  have e0 : wf.cell? ⟨w.heap.size + 1 + 1 + 1, 0, none⟩ = some (.int .i64 x0) := by simp [World.cell?, hEm]
  have e1 : wf.cell? ⟨w.heap.size + 1 + 1 + 1, 1, none⟩ = some (.int .i64 x1) := by simp [World.cell?, hEm]
  have e2 : wf.cell? ⟨w.heap.size + 1 + 1 + 1, 2, none⟩ = some (.int .u64 x2) := by simp [World.cell?, hEm]
  have e3 : wf.cell? ⟨w.heap.size + 1 + 1 + 1, 3, none⟩ = some (.int .u64 x3) := by simp [World.cell?, hEm]
  have e4 : wf.cell? ⟨w.heap.size + 1 + 1 + 1, 4, none⟩ = some (.slice x4 x5 x6) := by simp [World.cell?, hEm]
  have e5 : wf.cell? ⟨w.heap.size + 1 + 1 + 1, 5, none⟩ = some (.slice x7 x8 x9) := by simp [World.cell?, hEm]
  have q0 : wf.cell? ⟨w.heap.size + 1 + 1 + 1 + 1, 0, none⟩ = some (.int .i64 o0) := by simp [World.cell?, hPm]
  have q1 : wf.cell? ⟨w.heap.size + 1 + 1 + 1 + 1, 1, none⟩ = some (.bool o1) := by simp [World.cell?, hPm]
  have q2 : wf.cell? ⟨w.heap.size + 1 + 1 + 1 + 1, 2, none⟩ = some (.int .i64 o2) := by simp [World.cell?, hPm]
  have q3 : wf.cell? ⟨w.heap.size + 1 + 1 + 1 + 1, 3, none⟩ = some (.int .u64 o3) := by simp [World.cell?, hPm]
  have q4 : wf.cell? ⟨w.heap.size + 1 + 1 + 1 + 1, 4, none⟩ = some (.slice none 0 0) := by simp [World.cell?, hPm]
  refine bodyPost_ret (v := .tuple #[.agg #[.int .i64 x0, .int .i64 x1, .int .u64 x2, .int .u64 x3, .slice x4 x5 x6, .slice x7 x8 x9], .agg #[.int .i64 o0, .bool o1, .int .i64 o2, .int .u64 o3, .slice none 0 0], .bool b]) (by simp [results, Try.results17, go_sem, e0, e1, e2, e3, e4, e5, q0, q1, q2, q3, q4]) rfl ⟨HE.out.symm, hF⟩
end Go.Proofs.Ytjokaginolpbeaa

namespace Go.Proofs.Ytjokaginolpbeaa
open Go.RowKit

/-! Worlds behind Pop and Push. -/
theorem Fit.put {X : WldK} {m : Nat} (h : Fit X m) (i a : Int) : Fit (X.put i a) m := ⟨h.pos, h.le, h.root, by rw [put_len]; exact h.ws, h.k0, h.k1⟩
theorem WOk.put {X : WldK} (h : WOk X) (i : Int) {a : Int} (ha : U64 a) : WOk (X.put i a) := ⟨h.1.put i a, put_u h.2.1 ha, by rw [put_len]; exact h.2.2⟩
theorem WOk.pop {X : WldK} (h : WOk X) (t : Nat) : WOk (popX X t) := h.put _ (topN_u _ _)
theorem new_wok {t c : Nat} (t1 : 1 ≤ t) (t2 : t ≤ 64) (hc : c ≤ 1000) : WOk (newW t c) := by
  have hd := new_dim (t := t) (c := c) t1 t2 (by omega)
  refine ⟨⟨?_, ?_, ⟨by simp [newW], by simp [newW]⟩, ?_, ?_, ?_⟩, hd.u, ?_⟩
  · simp only [newW, newN]; rw [if_pos (by omega)]; omega
  · simp only [newW, newN]; rw [if_pos (by omega)]; omega
  · rw [hd.len]; unfold memL; omega
  · intro k hk; obtain ⟨_, rfl⟩ := List.mem_replicate.1 hk; simp
  · intro k hk; obtain ⟨_, rfl⟩ := List.mem_replicate.1 hk; simp
  · rw [hd.len]; unfold memL; omega
end Go.Proofs.Ytjokaginolpbeaa

namespace Go.Proofs.Ytjokaginolpbeaa
open Go.RowKit

/-! An operation on epochs, stepping alone. -/
theorem aloneN_ok {P : List Int → NextE} {me : Int} (hP : ∀ (ns : List Int) (x : Acc), U64s ns → P ns = .stop x → ∃ a : Ask, x = a.acc ∧ a.Ok) : ∀ (n : Nat) (X : WldK) (ns : List Int), WOk X → U64s ns → WOk (aloneN P me n X ns).1 ∧ (aloneN P me n X ns).1.T = X.T ∧ (aloneN P me n X ns).1.C = X.C
  | 0, X, ns, h, _ => ⟨h, rfl, rfl⟩
  | n + 1, X, ns, h, hn => by
    unfold aloneN
    cases hp : P ns with
    | done o => exact ⟨h, rfl, rfl⟩
    | stop x =>
      obtain ⟨a, rfl, ha⟩ := hP ns x hn hp
      obtain ⟨h1, h2, h3, h4⟩ := h.step me ha
      have h5 := aloneN_ok (me := me) hP n (doK X me a.K false) (ns ++ [(doR X a.K false).N]) h1 (fun m hm => by
        rcases List.mem_append.1 hm with hm | hm
        · exact hn m hm
        · rw [List.mem_singleton.1 hm]; exact h2)
      exact ⟨h5.1, h5.2.1.trans h3, h5.2.2.trans h4⟩
theorem epochN_ok (t me k u : Int) (f : Nat) (hu : k = 5 → U64 u) (ns : List Int) (x : Acc) (h : U64s ns) (hx : nextT (epochT t me k u f) ns = .stop x) : ∃ a : Ask, x = a.acc ∧ a.Ok := by
  unfold nextT at hx
  cases hr : (epochT t me k u f).run stL ns with
  | ret o l => rw [hr] at hx; simp at hx
  | out => rw [hr] at hx; simp at hx
  | stop y => rw [hr] at hx; simp only [NextE.stop.injEq] at hx; exact ⟨y, hx.symm, (epochT_ok t me k u f hu).stop h hr⟩
theorem eal_any (f : Nat) (X : WldK) (t : Nat) (hT : X.T = (t : Int)) (ht2 : t ≤ 64) (hX : WOk X) (wv : Value) (me k u v d M : Int) (hm1 : 0 ≤ me) (hm2 : me ≤ 64) (hu : k = 5 → 0 ≤ u ∧ u ≤ 1048576) (most : Nat) (hM : (most : Int) = M) (hf : most < f) (hm : most ≤ 900) (w : World) (hV : WldV w wv X) :
    Calls Try.prog 22 #[wv, .int .i64 me, .agg #[.int .i64 k, .int .i64 u, .int .i64 v, .int .u64 d], .int .i64 M] w fun e w' => ∃ v', e = .returned (.tuple #[v', .agg (aloneN (nextT (epochT t me k u f)) me (most + 1) X []).2.1.cells, .bool (aloneN (nextT (epochT t me k u f)) me (most + 1) X []).2.2]) ∧ WldV w' v' (aloneN (nextT (epochT t me k u f)) me (most + 1) X []).1 ∧ Ext w w' := by
  subst hM
  have hu2 : k = 5 → U64 u := fun h => by have := hu h; unfold U64; omega
  refine ealone_any (nextT (epochT t me k u f)) X wv me k u v d most hm w hV hX ?_ (fun ns x h hx => epochN_ok _ _ _ _ _ hu2 ns x h hx)
  intro T C B n kc rs w' hT' hC hl hlog hG
  obtain rfl : T = (t : Int) := hT'.trans hT
  exact enext_any f _ _ _ _ _ _ _ (by omega) (by omega) hm1 hm2 hu B n kc rs (by omega) w' hlog hG (fun x hx => epochN_ok _ _ _ _ _ hu2 _ x hG.u64s hx)
end Go.Proofs.Ytjokaginolpbeaa
