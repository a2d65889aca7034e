import Derived.Test.YtjokaginolpbeaaEpochDirectPartG
namespace Go.Proofs.Ytjokaginolpbeaa
open Go.RowKit

/-! An operation on epochs, stepping alone, and made at once: the same answer, and the same world behind it. -/
def AloneC (t me most : Nat) (k u : Int) (o : OutN) (X X' : WldK) : Prop := ∀ (wv : Value) (v d : Int) (w : World), WldV w wv X →
  Calls Try.prog 22 #[wv, .int .i64 (me : Int), .agg #[.int .i64 k, .int .i64 u, .int .i64 v, .int .u64 d], .int .i64 (most : Int)] w fun e w' => ∃ v', e = .returned (.tuple #[v', .agg #[.int .i64 o.err, .bool o.is, .int .i64 o.n, .int .u64 o.w, .slice none 0 0], .bool true]) ∧ WldV w' v' X' ∧ Ext w w'
theorem eal_goes {X X' : WldK} {t c : Nat} (hd : Dim X t c) (hX : WOk X) {me : Nat} (hme : me < t) {k u : Int} {o : OutN} {j most : Nat} (hu : k = 5 → 0 ≤ u ∧ u ≤ 1048576) (hg : Goes (me : Int) (epochT t me k u (most + 1)) X j o X') (hj : j ≤ most) (hm9 : most ≤ 900) : WOk X' ∧ AloneC t me most k u o X X' := by
  have ha := ep_alone hg hj
  have hT := hd.T
  have ht2 := hd.t2
  have hu2 : k = 5 → U64 u := fun h => by have := hu h; unfold U64; omega
  have hw := (aloneN_ok (P := nextT (epochT t me k u (most + 1))) (me := (me : Int)) (fun ns x h3 hx3 => epochN_ok _ _ _ _ _ hu2 ns x h3 hx3) (most + 1) X [] hX (fun m hm => by cases hm)).1
  rw [ha] at hw
  refine ⟨hw, fun wv v d w hV => ?_⟩
  have h1 := eal_any (most + 1) X t hT ht2 hX wv me k u v d (most : Int) (by omega) (by omega) hu most rfl (by omega) hm9 w hV
  rw [ha] at h1
  exact h1
section
variable {X X' : WldK} {me : Nat} (hX : WOk X) (gP gM gw : Nat) (w : World) (hD : DirAt w gP gM gw (me : Int) X)
include hX hD
theorem dir_pin {j : Nat} (hg : Goes (me : Int) (pinT me) X j 0 X') (hm : me ≤ 64) :
    Calls Try.prog 27 #[dirV13 gP gM, .int .i64 (me : Int)] w fun e w' => e = .returned (.tuple #[]) ∧ DirAt w' gP gM gw (me : Int) X' ∧ ExtB gw w w' := by
  refine (gpin (dir13_ok gP gM gw (me : Int)) (me : Int) (by omega) (by omega) X w ⟨hD, hX⟩).mono ?_
  intro e w' h
  rw [hg.run] at h
  exact ⟨h.1, h.2.1.1, h.2.2⟩
theorem dir_unpin {j : Nat} (hg : Goes (me : Int) (unpinT me) X j 0 X') (hm : me ≤ 64) :
    Calls Try.prog 28 #[dirV13 gP gM, .int .i64 (me : Int)] w fun e w' => e = .returned (.tuple #[]) ∧ DirAt w' gP gM gw (me : Int) X' ∧ ExtB gw w w' := by
  refine (gunpin (dir13_ok gP gM gw (me : Int)) (me : Int) (by omega) (by omega) X w ⟨hD, hX⟩).mono ?_
  intro e w' h
  rw [hg.run] at h
  exact ⟨h.1, h.2.1.1, h.2.2⟩
theorem dir_retire {t f j : Nat} {x : Int} (ht : t ≤ 64) (h0 : 0 ≤ x) (h1 : x ≤ 1048576) (hg : Goes (me : Int) (retireT t x f) X j 0 X') :
    Calls Try.prog 30 #[dirV13 gP gM, .int .i64 (t : Int), .int .i64 x] w fun e w' => e = .returned (.tuple #[]) ∧ DirAt w' gP gM gw (me : Int) X' ∧ ExtB gw w w' := by
  refine (gretire (dir13_ok gP gM gw (me : Int)) t x (by omega) (by omega) h0 h1 f X w ⟨hD, hX⟩ (by rw [hg.run]; simp)).mono ?_
  intro e w' h
  rw [hg.run] at h
  exact ⟨h.1, h.2.1.1, h.2.2⟩
theorem dir_adv {t f j : Nat} {b : Bool} (ht : t ≤ 64) (hg : Goes (me : Int) (advT t f) X j b X') :
    Calls Try.prog 31 #[dirV13 gP gM, .int .i64 (t : Int)] w fun e w' => e = .returned (.bool b) ∧ DirAt w' gP gM gw (me : Int) X' ∧ ExtB gw w w' := by
  refine (gadvance (dir13_ok gP gM gw (me : Int)) (dir13_away gP gM gw (me : Int)) t (by omega) (by omega) f X w ⟨hD, hX⟩ hD.lt.2.2 (by rw [hg.run]; simp)).mono ?_
  intro e w' h
  rw [hg.run] at h
  exact ⟨h.1, h.2.1.1, h.2.2⟩
theorem dir_alloc {t f j : Nat} {r : Int} (ht : t ≤ 64) (hm : me ≤ 64) (hg : Goes (me : Int) (allocT t me f) X j r X') :
    Calls Try.prog 29 #[dirV13 gP gM, .int .i64 (t : Int), .int .i64 (me : Int)] w fun e w' => e = .returned (.int .i64 r) ∧ DirAt w' gP gM gw (me : Int) X' ∧ ExtB gw w w' := by
  refine (galloc (dir13_ok gP gM gw (me : Int)) (dir13_away gP gM gw (me : Int)) t me (by omega) (by omega) (by omega) (by omega) f X w ⟨hD, hX⟩ hD.lt.2.2 (by rw [hg.run]; simp)).mono ?_
  intro e w' h
  rw [hg.run] at h
  exact ⟨h.1, h.2.1.1, h.2.2⟩
end
section
variable {X : WldK} {t c : Nat} {S : EpS} (h : EpK X t c S) (hX : WOk X) {me : Nat} (hme : me < t) {most : Nat} (hm9 : most ≤ 900)
include h hX hme hm9
theorem both_pin (he : S.e ≤ 1000000) (hm : 2 ≤ most) : ∃ X', EpK X' t c (S.pin me ((S.e : Int) + 1)) ∧ WOk X' ∧ AloneC t me most 3 0 ⟨0, false, 0, 0⟩ X X' ∧
    ∀ gP gM gw w, DirAt w gP gM gw (me : Int) X → Calls Try.prog 27 #[dirV13 gP gM, .int .i64 (me : Int)] w fun e w' => e = .returned (.tuple #[]) ∧ DirAt w' gP gM gw (me : Int) X' ∧ ExtB gw w w' := by
  obtain ⟨X', g, h'⟩ := pin_goes h he hme
  have ht2 := h.dim.t2
  have hg : Goes (me : Int) (epochT t me 3 0 (most + 1)) X 2 ⟨0, false, 0, 0⟩ X' := by
    unfold epochT; rw [if_pos rfl]
    exact Goes.cast (Goes.bind g (Goes.ret _ _)) (Nat.add_zero _)
  obtain ⟨hw, ha⟩ := eal_goes h.dim hX hme (by omega) hg hm hm9
  exact ⟨X', h', hw, ha, fun gP gM gw w hD => dir_pin hX gP gM gw w hD g (by omega)⟩
theorem both_unpin (hm : 1 ≤ most) : ∃ X', EpK X' t c (S.pin me 0) ∧ WOk X' ∧ AloneC t me most 4 0 ⟨0, false, 0, 0⟩ X X' ∧
    ∀ gP gM gw w, DirAt w gP gM gw (me : Int) X → Calls Try.prog 28 #[dirV13 gP gM, .int .i64 (me : Int)] w fun e w' => e = .returned (.tuple #[]) ∧ DirAt w' gP gM gw (me : Int) X' ∧ ExtB gw w w' := by
  obtain ⟨X', g, h'⟩ := unpin_goes h hme
  have ht2 := h.dim.t2
  have hg : Goes (me : Int) (epochT t me 4 0 (most + 1)) X 1 ⟨0, false, 0, 0⟩ X' := by
    unfold epochT; rw [if_neg (by omega), if_pos rfl]
    exact Goes.cast (Goes.bind g (Goes.ret _ _)) (Nat.add_zero _)
  obtain ⟨hw, ha⟩ := eal_goes h.dim hX hme (by omega) hg hm hm9
  exact ⟨X', h', hw, ha, fun gP gM gw w hD => dir_unpin hX gP gM gw w hD g (by omega)⟩
theorem both_retire {x : Int} (h1 : 1 ≤ x) (h2 : x ≤ (c : Int)) (hx : x ∉ S.all) (hm : 4 ≤ most) : ∃ X', EpK X' t c (S.retire x) ∧ WOk X' ∧ AloneC t me most 5 x ⟨0, false, 0, 0⟩ X X' ∧
    ∀ gP gM gw w, DirAt w gP gM gw (me : Int) X → Calls Try.prog 30 #[dirV13 gP gM, .int .i64 (t : Int), .int .i64 x] w fun e w' => e = .returned (.tuple #[]) ∧ DirAt w' gP gM gw (me : Int) X' ∧ ExtB gw w w' := by
  obtain ⟨X', g, h'⟩ := retire_goes h (me : Int) h1 h2 hx most
  have ht2 := h.dim.t2
  have hc2 := h.dim.c2
  have hg : Goes (me : Int) (epochT t me 5 x (most + 1)) X 4 ⟨0, false, 0, 0⟩ X' := by
    unfold epochT; rw [if_neg (by omega), if_neg (by omega), if_pos rfl]
    exact Goes.cast (Goes.bind g (Goes.ret _ _)) (Nat.add_zero _)
  obtain ⟨hw, ha⟩ := eal_goes h.dim hX hme (fun _ => by omega) hg hm hm9
  exact ⟨X', h', hw, ha, fun gP gM gw w hD => dir_retire hX gP gM gw w hD (by omega) (by omega) (by omega) g⟩
theorem both_adv (he : S.e ≤ 1000000) (hm : 3 + t + 4 * c ≤ most) : ∃ X', EpK X' t c (S.adv t) ∧ WOk X' ∧ AloneC t me most 19 0 ⟨0, decide (S.okP t), 0, 0⟩ X X' ∧
    ∀ gP gM gw w, DirAt w gP gM gw (me : Int) X → Calls Try.prog 31 #[dirV13 gP gM, .int .i64 (t : Int)] w fun e w' => e = .returned (.bool (decide (S.okP t))) ∧ DirAt w' gP gM gw (me : Int) X' ∧ ExtB gw w w' := by
  obtain ⟨X', j, hj, g, h'⟩ := adv_goes h he (me : Int) most (by omega)
  have ht2 := h.dim.t2
  have hg : Goes (me : Int) (epochT t me 19 0 (most + 1)) X j ⟨0, decide (S.okP t), 0, 0⟩ X' := by
    unfold epochT; rw [if_neg (by omega), if_neg (by omega), if_neg (by omega), if_pos rfl]
    exact Goes.cast (Goes.bind g (Goes.ret _ _)) (Nat.add_zero _)
  obtain ⟨hw, ha⟩ := eal_goes h.dim hX hme (by omega) hg (by omega) hm9
  exact ⟨X', h', hw, ha, fun gP gM gw w hD => dir_adv hX gP gM gw w hD (by omega) g⟩
theorem both_alloc (he : S.e + 3 ≤ 1000000) (hm : 27 + 3 * t + 12 * c ≤ most) : ∃ X', EpK X' t c (S.alloc t me).1 ∧ WOk X' ∧ AloneC t me most 6 0 ⟨0, false, (S.alloc t me).2, 0⟩ X X' ∧
    ∀ gP gM gw w, DirAt w gP gM gw (me : Int) X → Calls Try.prog 29 #[dirV13 gP gM, .int .i64 (t : Int), .int .i64 (me : Int)] w fun e w' => e = .returned (.int .i64 (S.alloc t me).2) ∧ DirAt w' gP gM gw (me : Int) X' ∧ ExtB gw w w' := by
  obtain ⟨X', j, hj, g, h'⟩ := alloc_goes h hme he most (by omega)
  have ht2 := h.dim.t2
  have hg : Goes (me : Int) (epochT t me 6 0 (most + 1)) X j ⟨0, false, (S.alloc t me).2, 0⟩ X' := by
    unfold epochT; rw [if_neg (by omega), if_neg (by omega), if_neg (by omega), if_neg (by omega), if_pos rfl]
    exact Goes.cast (Goes.bind g (Goes.ret _ _)) (Nat.add_zero _)
  obtain ⟨hw, ha⟩ := eal_goes h.dim hX hme (by omega) hg (by omega) hm9
  exact ⟨X', h', hw, ha, fun gP gM gw w hD => dir_alloc hX gP gM gw w hD (by omega) (by omega) g⟩
end
/-! A cell of a box is set. -/
theorem set_box {w : World} {g i : Nat} {cs : List Value} {T : TypeId} {fr : Nat × Nat} {v : Value} (h : w.heap[g]? = some (.cells cs.toArray T fr)) (hi : i < cs.length) : (w.setCell ⟨g, i, none⟩ v).heap[g]? = some (.cells (cs.set i v).toArray T fr) ∧ But g w (w.setCell ⟨g, i, none⟩ v) ∧ (w.setCell ⟨g, i, none⟩ v).heap.size = w.heap.size := by
  refine ⟨?_, fun k o hk ho => ?_, by simp [World.setCell]⟩
  · rw [heap_setCell_at h]; simp
  · have := setAll_other (g := g) (k := k) hk [v] i w
    exact this.trans ho
theorem set_ext {w0 w : World} {g i : Nat} {v : Value} (h : Ext w0 w) (hg : w0.heap.size ≤ g) : Ext w0 (w.setCell ⟨g, i, none⟩ v) := setAll_ext (g := g) (vs := [v]) (i := i) h hg
/-! What an allocation takes, whoever is pinned. -/
structure AllocP (S0 : EpS) (q : EpS × Int) : Prop where
  none : q.2 = 0 → q.1.all.Perm S0.all
  some : q.2 ≠ 0 → S0.all.Perm (q.2 :: q.1.all)
theorem allocS_perm {S0 : EpS} {t me : Nat} : ∀ (k : Nat) (S : EpS), S.all.Perm S0.all → (∀ x ∈ S.all, 1 ≤ x) → AllocP S0 (allocS t me k S 0)
  | 0, S, h, _ => ⟨fun _ => h, fun h => absurd rfl h⟩
  | k + 1, S, h, hx => by
    unfold allocS
    rw [if_pos rfl]
    have hp := adv_all (S.pin me ((S.e : Int) + 1)) t
    rw [pin_all] at hp
    generalize (S.pin me ((S.e : Int) + 1)).adv t = S2 at *
    cases hp2 : S2.pile with
    | nil =>
      show AllocP S0 (allocS t me k S2.pop 0)
      refine allocS_perm k S2.pop ?_ ?_
      · rw [pop_none_all hp2]; exact hp.trans h
      · rw [pop_none_all hp2]; exact fun x hm => hx x (hp.mem_iff.1 hm)
    | cons y l =>
      have hy : 1 ≤ y := hx y (hp.mem_iff.1 (EpS.mem_all.2 (.inl (by rw [hp2]; simp))))
      show AllocP S0 (allocS t me k S2.pop y)
      rw [allocS_some k _ y (by omega)]
      refine ⟨fun h => absurd h (by simp; omega), fun _ => ?_⟩
      show S0.all.Perm (y :: S2.pop.all)
      rw [← pop_some_all hp2]
      exact (hp.trans h).symm
theorem alloc_perm {S : EpS} {t me : Nat} (hx : ∀ x ∈ S.all, 1 ≤ x) : AllocP S (S.alloc t me) := by
  unfold EpS.alloc
  cases hp : S.pile with
  | nil =>
    show AllocP S (allocS t me 3 S.pop 0)
    exact allocS_perm 3 S.pop (by rw [pop_none_all hp]) (by rw [pop_none_all hp]; exact hx)
  | cons y l =>
    have hy : 1 ≤ y := hx y (EpS.mem_all.2 (.inl (by rw [hp]; simp)))
    show AllocP S (allocS t me 3 S.pop y)
    rw [allocS_some 3 _ y (by omega)]
    refine ⟨fun h => absurd h (by simp; omega), fun _ => ?_⟩
    show S.all.Perm (y :: S.pop.all)
    rw [← pop_some_all hp]
end Go.Proofs.Ytjokaginolpbeaa
