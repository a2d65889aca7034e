/- Proved: the law DiskTwice (behind a crash another one turns nothing; a sync of all streams ahead makes it turn nothing but what is synced) returns true at every input and turns none of its arguments. No condition. -/
import Derived.Test.YthgcpfofdbdkpaaDiskRef
import Derived.Test.YthgcpfofdbdkpaaDiskOpen
namespace Go.Proofs.Ythgcpfofdbdkpaa
open Go.ChangeShapes Go.WideShapes Go.ChangeAt Go.RowKit

theorem rightD_true' {n0 n1 : Nat} {l0 l1 : List St} (h : rightD n0 n1 l0 l1 = true) : 1 ≤ n0 ∧ n0 ≤ 64 ∧ n1 = n0 ∧ (∀ s ∈ l0, rightB s.k s.q = true) ∧ (∀ s ∈ l1, rightB s.k s.q = true) := by
  simp only [rightD, Bool.and_eq_true, decide_eq_true_eq, List.all_eq_true] at h
  exact ⟨h.1.1, h.1.2.1, h.1.2.2, fun s hs => h.2 s (by simp [hs]), fun s hs => h.2 s (by simp [hs])⟩
/-- all its bytes are synced -/
def St.full (s : St) : Prop := s.k = (s.q : Int) ∧ s.d.length = s.q
theorem St.full.cut {s : St} (h : s.full) (m : Int) : (s.cut m).key = s.key := by
  have hc : cutN s.q s.k m = s.q := by rw [h.1]; unfold cutN; omega
  simp only [St.cut, St.key, hc]
  rw [h.1, List.take_of_length_le (Nat.le_of_eq h.2)]
theorem St.full.right {s : St} (h : s.full) : rightB s.k s.q = true := by simp [rightB, h.1]
theorem CutTo.same {l L : List St} {ms : List Int} {n : Nat} (h : CutTo l L ms n) (hn : l.length = n) (hf : ∀ s ∈ l, s.full) : L.map St.key = l.map St.key := by
  subst hn
  rw [h.keys]
  refine List.ext_getElem? fun i => ?_
  rw [List.getElem?_map, List.getElem?_mapIdx]
  cases hi : l[i]? with
  | none => rfl
  | some s => simp [(hf s (List.mem_of_getElem? hi)).cut]
theorem CutTo.full {w : World} {l L : List St} {ms : List Int} {n : Nat} (h : CutTo l L ms n) (hn : l.length = n) (hok : ∀ s ∈ L, StOK w s) : ∀ s ∈ L, s.full := fun x hx => by
  refine ⟨?_, (hok x hx).len⟩
  obtain ⟨i, hi⟩ := List.getElem?_of_mem hx
  have hil : i < l.length := by rw [← h.1]; exact (List.getElem?_eq_some_iff.1 hi).1
  have := h.2 i l[i] (List.getElem?_eq_getElem hil)
  rw [hi, if_pos (by omega)] at this
  cases this
  rfl
/-- rows of which so many streams are synced -/
def SyncTo (l L : List St) (j : Nat) : Prop := L.length = l.length ∧ ∀ (i : Nat) (x : St), L[i]? = some x → i < j → x.k = (x.q : Int)
theorem SyncTo.step {l L : List St} {j : Nat} {s : St} (h : SyncTo l L j) (hs : s.k = (s.q : Int)) : SyncTo l (L.set j s) (j + 1) := by
  refine ⟨by rw [List.length_set]; exact h.1, fun i x hx hi => ?_⟩
  by_cases hij : i = j
  · subst hij
    have hl := (List.getElem?_eq_some_iff.1 hx).1
    rw [List.getElem?_set_self (by simpa using hl)] at hx
    cases hx
    exact hs
  · rw [List.getElem?_set_ne (fun e => hij e.symm)] at hx
    exact h.2 i x hx (by omega)
theorem SyncTo.full {w : World} {l L : List St} {n : Nat} (h : SyncTo l L n) (hn : l.length = n) (hok : ∀ s ∈ L, StOK w s) : ∀ s ∈ L, s.full := fun x hx => by
  obtain ⟨i, hi⟩ := List.getElem?_of_mem hx
  exact ⟨h.2 i x hi (by have := (List.getElem?_eq_some_iff.1 hi).1; rw [h.1] at this; omega), (hok x hx).len⟩
theorem StOK.small {w : World} {s : St} (h : StOK w s) : s.q ≤ 9223372036854775807 := by
  have := Nat.le_trans h.le h.cap
  simpa only [maxLen] using this
set_option maxRecDepth 100000 in
set_option maxHeartbeats 8000000 in
theorem dtwice_walk (R : Int) (A0 A1 : Option Addr) (n0 c0 n1 c1 : Nat) (l0 l1 : List St) (M N : Option Addr) (m cm nn cn : Nat) (ms ns : List Int) (w : World) (h0 : RowV w A0 n0 c0 l0) (h1 : RowV w A1 n1 c1 l1) (hM : IntsV w M m cm ms) (hN : IntsV w N nn cn ns) :
    Calls Try.prog 12 #[.agg #[.int .u64 R, .slice A0 n0 c0, .slice A1 n1 c1], .slice M m cm, .slice N nn cn] w fun e w' => e = .returned (.bool true) ∧ Ext w w' := by
  go_enter Try.func12, Try.ntmps12
  go_upto_region 1 with (fail)
  have hW : Ext w (w.alloc (.cells #[.int .u64 R, .slice A0 n0 c0, .slice A1 n1 c1] 69)) := (Below.refl _ w).alloc (Nat.le_refl _) _
  have hda : (w.alloc (.cells #[.int .u64 R, .slice A0 n0 c0, .slice A1 n1 c1] 69)).heap[w.heap.size]? = some (.cells #[.int .u64 R, .slice A0 n0 c0, .slice A1 n1 c1] 69 (0, 0)) := heap_alloc_new w _
  generalize w.alloc (.cells #[.int .u64 R, .slice A0 n0 c0, .slice A1 n1 c1] 69) = W at *
  generalize w.heap.size = ga at *
  go_wp2_with fail
  refine (shown7_any _).mono ?_
  rintro e w1 ⟨rfl, hx1⟩
  replace hW := hW.trans hx1
  replace hda := heap_ext hda hx1
  clear hx1
  have a0 : w1.cell? ⟨ga, 0, none⟩ = some (.int .u64 R) := by simp [World.cell?, hda]
  have a1 : w1.cell? ⟨ga, 1, none⟩ = some (.slice A0 n0 c0) := by simp [World.cell?, hda]
  have a2 : w1.cell? ⟨ga, 2, none⟩ = some (.slice A1 n1 c1) := by simp [World.cell?, hda]
  go_wp2_with fail
  refine (few7_any R A0 A1 n0 c0 n1 c1 l0 l1 _ (h0.ext hW) (h1.ext hW)).mono ?_
  rintro e w2 ⟨⟨b1, rfl, hf⟩, hx2⟩
  replace hW := hW.trans hx2
  replace hda := heap_ext hda hx2
  clear hx2 a0 a1 a2
  cases b1 with
  | false =>
    go_wp2
    go_ret
    exact ⟨rfl, hW⟩
  | true =>
    obtain ⟨hf0, hf1⟩ := hf rfl
    have a0 : w2.cell? ⟨ga, 0, none⟩ = some (.int .u64 R) := by simp [World.cell?, hda]
    have a1 : w2.cell? ⟨ga, 1, none⟩ = some (.slice A0 n0 c0) := by simp [World.cell?, hda]
    have a2 : w2.cell? ⟨ga, 2, none⟩ = some (.slice A1 n1 c1) := by simp [World.cell?, hda]
    go_wp2_with fail
    refine (rright7_any R A0 A1 n0 c0 n1 c1 l0 l1 _ (h0.ext hW) (h1.ext hW)).mono ?_
    rintro e w3 ⟨rfl, hx3⟩
    replace hW := hW.trans hx3
    replace hda := heap_ext hda hx3
    clear hx3 a0 a1 a2
    cases hr : rightD n0 n1 l0 l1 with
    | false =>
      go_wp2
      go_ret
      exact ⟨rfl, hW⟩
    | true =>
      obtain ⟨g1, g2, rfl, hr0, hr1⟩ := rightD_true' hr
      have hR0 : ∀ s ∈ l0, rightB s.k s.q = true ∧ s.q ≤ 9223372036854775807 := fun s hs => ⟨hr0 s hs, (h0.ok s hs).small⟩
      have hR1 : ∀ s ∈ l1, rightB s.k s.q = true ∧ s.q ≤ 9223372036854775807 := fun s hs => ⟨hr1 s hs, (h1.ok s hs).small⟩
      have hlen0 := h0.len
      have hlen1 := h1.len
      by_cases hm : (40 : Int) < (m : Int)
      · go_wp2
        go_ret
        exact ⟨rfl, hW⟩
      by_cases hnn : (40 : Int) < (nn : Int)
      · go_wp2
        go_ret
        exact ⟨rfl, hW⟩
      clear hr hf
      have a0 : w3.cell? ⟨ga, 0, none⟩ = some (.int .u64 R) := by simp [World.cell?, hda]
      have a1 : w3.cell? ⟨ga, 1, none⟩ = some (.slice A0 n1 c0) := by simp [World.cell?, hda]
      have a2 : w3.cell? ⟨ga, 2, none⟩ = some (.slice A1 n1 c1) := by simp [World.cell?, hda]
      go_wp2_with fail
      refine (dcrash_any R A0 A1 n1 c0 n1 c1 l0 l1 M m cm ms _ (h0.ext hW) (h1.ext hW) (by omega) (by omega) hR0 hR1 (hM.ext hW)).mono ?_
      rintro e w4 ⟨C0, C1, d0, d1, K0, K1, rfl, hC0, hC1, hcut0, hcut1, hx4⟩
      have hfull0 := hcut0.full hlen0 hC0.ok
      have hfull1 := hcut1.full hlen1 hC1.ok
      replace hda := heap_ext hda hx4
      replace hW := hW.trans hx4
      clear hx4 a0 a1 a2 hcut0 hcut1
      go_upto_region 5 with (fail)
      have hwa : Ext w4 (w4.alloc (.cells #[.int .u64 R, .slice C0 n1 d0, .slice C1 n1 d1] 69)) := (Below.refl _ w4).alloc (Nat.le_refl _) _
      have hdc : (w4.alloc (.cells #[.int .u64 R, .slice C0 n1 d0, .slice C1 n1 d1] 69)).heap[w4.heap.size]? = some (.cells #[.int .u64 R, .slice C0 n1 d0, .slice C1 n1 d1] 69 (0, 0)) := heap_alloc_new w4 _
      replace hda := heap_ext hda hwa
      replace hW := hW.trans hwa
      replace hC0 := hC0.ext hwa
      replace hC1 := hC1.ext hwa
      generalize w4.alloc (.cells #[.int .u64 R, .slice C0 n1 d0, .slice C1 n1 d1] 69) = W4 at *
      generalize w4.heap.size = gc at *
      clear hwa
      have a0 : W4.cell? ⟨ga, 0, none⟩ = some (.int .u64 R) := by simp [World.cell?, hda]
      have a1 : W4.cell? ⟨ga, 1, none⟩ = some (.slice A0 n1 c0) := by simp [World.cell?, hda]
      have a2 : W4.cell? ⟨ga, 2, none⟩ = some (.slice A1 n1 c1) := by simp [World.cell?, hda]
      go_upto_region 6 with (fail)
      clear a0 a1 a2
      have hwb : Ext W4 (W4.alloc (.cells #[.int .u64 R, .slice A0 n1 c0, .slice A1 n1 c1] 69)) := (Below.refl _ W4).alloc (Nat.le_refl _) _
      have hds : (W4.alloc (.cells #[.int .u64 R, .slice A0 n1 c0, .slice A1 n1 c1] 69)).heap[W4.heap.size]? = some (.cells #[.int .u64 R, .slice A0 n1 c0, .slice A1 n1 c1] 69 (0, 0)) := heap_alloc_new W4 _
      generalize W4.alloc (.cells #[.int .u64 R, .slice A0 n1 c0, .slice A1 n1 c1] 69) = W5 at *
      obtain ⟨gs, hgs⟩ : ∃ g, g = W4.heap.size := ⟨_, rfl⟩
      rw [← hgs] at hds
      have hgs' : W4.heap.size ≤ gs := by omega
      rw [← hgs]
      clear hgs
      have hr50 := h0.ext (hW.trans hwb)
      have hr51 := h1.ext (hW.trans hwb)
      go_wp2
      go_loopw [10] (fun r wr => ∃ (S0 S1 : Option Addr) (s0 s1 : Nat) (L0 L1 : List St), wr.heap[gs]? = some (.cells #[.int .u64 R, .slice S0 n1 s0, .slice S1 n1 s1] 69 (0, 0)) ∧ RowV wr S0 n1 s0 L0 ∧ RowV wr S1 n1 s1 L1 ∧ Ext W4 wr ∧
        ((r = .int .i64 0 ∧ SyncTo l0 L0 0 ∧ SyncTo l1 L1 0) ∨ (r = .int .i64 1 ∧ SyncTo l0 L0 n1 ∧ SyncTo l1 L1 0) ∨ (r = .int .i64 2 ∧ SyncTo l0 L0 n1 ∧ SyncTo l1 L1 n1))) (fun r _ => 2 - (intOf r).toNat)
      case atStart => exact ⟨_, _, _, _, l0, l1, hds, hr50, hr51, hwb, .inl ⟨rfl, ⟨rfl, fun i x _ h => absurd h (Nat.not_lt_zero _)⟩, ⟨rfl, fun i x _ h => absurd h (Nat.not_lt_zero _)⟩⟩⟩
      case round =>
        clear hds hr50 hr51 hwb
        obtain ⟨S0, S1, s0, s1, L0, L1, hs, hS0, hS1, hx, ⟨rfl, hy0, hy1⟩ | ⟨rfl, hy0, hy1⟩ | ⟨rfl, hy0, hy1⟩⟩ := hrel
        · go_wp2
          go_loopw [11] (fun i wq => ∃ (j : Nat) (T0 T1 : Option Addr) (t0 t1 : Nat) (Q0 Q1 : List St), j ≤ n1 ∧ i = .int .i64 j ∧ wq.heap[gs]? = some (.cells #[.int .u64 R, .slice T0 n1 t0, .slice T1 n1 t1] 69 (0, 0)) ∧ RowV wq T0 n1 t0 Q0 ∧ RowV wq T1 n1 t1 Q1 ∧ Ext W4 wq ∧ SyncTo l0 Q0 j ∧ SyncTo l1 Q1 0) (fun i _ => n1 - (intOf i).toNat)
          case atStart => exact ⟨0, _, _, _, _, L0, L1, Nat.zero_le _, rfl, hs, hS0, hS1, hx, hy0, hy1⟩
          case round =>
            clear hs hS0 hS1 hx hy0 hy1
            obtain ⟨j, T0, T1, t0, t1, Q0, Q1, hj, rfl, hs, hT0, hT1, hx, hq0, hq1⟩ := hrel
            have a1 : wr.cell? ⟨ga, 1, none⟩ = some (.slice A0 n1 c0) := hx.cell (by simp [World.cell?, hda])
            rcases Nat.lt_or_ge j n1 with hjn | hjn
            · have hini : (j : Int) < (n1 : Int) := by omega
              have hsx : Q0[j]? = some (Q0[j]'(by rw [hT0.len]; exact hjn)) := List.getElem?_eq_getElem _
              have hsm := (hT0.ok _ (List.mem_of_getElem? hsx)).small
              generalize (Q0[j]'(by rw [hT0.len]; exact hjn)) = s at *
              have b0 : wr.cell? ⟨gs, 0, none⟩ = some (.int .u64 R) := by simp [World.cell?, hs]
              have b1 : wr.cell? ⟨gs, 1, none⟩ = some (.slice T0 n1 t0) := by simp [World.cell?, hs]
              have b2 : wr.cell? ⟨gs, 2, none⟩ = some (.slice T1 n1 t1) := by simp [World.cell?, hs]
              go_wp2_with fail
              refine (dsync_row0 R T0 T1 n1 t0 n1 t1 j _ s _ hT0 hsx (by omega) (by omega) hsm).mono ?_
              rintro e w6 ⟨X, x, sx, rfl, hXr, ⟨e1, e2, e3⟩, hx6⟩
              replace hs := heap_ext hs hx6
              replace hx := hx.trans hx6
              have hOr := hT1.ext hx6
              clear a1 b0 b1 b2 hx6
              go_upto_region 15 with (fail)
              have hwa : Ext w6 (w6.alloc (.cells #[.int .u64 R, .slice X n1 x, .slice T1 n1 t1] 69)) := (Below.refl _ w6).alloc (Nat.le_refl _) _
              have hdx : (w6.alloc (.cells #[.int .u64 R, .slice X n1 x, .slice T1 n1 t1] 69)).heap[w6.heap.size]? = some (.cells #[.int .u64 R, .slice X n1 x, .slice T1 n1 t1] 69 (0, 0)) := heap_alloc_new w6 _
              have hlt6 : gs < w6.heap.size := (Array.getElem?_eq_some_iff.1 hs).1
              replace hs := heap_ext hs hwa
              replace hx := hx.trans hwa
              replace hXr := hXr.ext hwa
              replace hOr := hOr.ext hwa
              generalize w6.alloc (.cells #[.int .u64 R, .slice X n1 x, .slice T1 n1 t1] 69) = W6 at *
              generalize w6.heap.size = gx at *
              clear hwa
              have b0 : W6.cell? ⟨gx, 0, none⟩ = some (.int .u64 R) := by simp [World.cell?, hdx]
              have b1 : W6.cell? ⟨gx, 1, none⟩ = some (.slice X n1 x) := by simp [World.cell?, hdx]
              have b2 : W6.cell? ⟨gx, 2, none⟩ = some (.slice T1 n1 t1) := by simp [World.cell?, hdx]
              have d0 : W6.cell? ⟨gs, 0, none⟩ = some (.int .u64 R) := by simp [World.cell?, hs]
              have df0 : W6.frozen? ⟨gs, 0, none⟩ = false := by simp [World.frozen?, hs]
              have d1 : W6.cell? ⟨gs, 1, none⟩ = some (.slice T0 n1 t0) := by simp [World.cell?, hs]
              have df1 : W6.frozen? ⟨gs, 1, none⟩ = false := by simp [World.frozen?, hs]
              have d2 : W6.cell? ⟨gs, 2, none⟩ = some (.slice T1 n1 t1) := by simp [World.cell?, hs]
              have df2 : W6.frozen? ⟨gs, 2, none⟩ = false := by simp [World.frozen?, hs]
              have hX2 := fun vs => hXr.box hs (fun v hv => diskish_three v hv rfl rfl rfl) 0 vs
              have hO2 := fun vs => hOr.box hs (fun v hv => diskish_three v hv rfl rfl rfl) 0 vs
              have hs2 := setAll_all (vs := [.int .u64 R, .slice X n1 x, .slice T1 n1 t1]) (old := [.int .u64 R, .slice T0 n1 t0, .slice T1 n1 t1]) hs rfl
              have hx2 : Ext W4 (setAll gs 0 [.int .u64 R, .slice X n1 x, .slice T1 n1 t1] W6) := setAll_ext hx hgs'
              have HS := Lib.hid hs2
              have HX := Lib.hid hx2
              have HA := Lib.hid (hX2 [.int .u64 R, .slice X n1 x, .slice T1 n1 t1])
              have HB := Lib.hid (hO2 [.int .u64 R, .slice X n1 x, .slice T1 n1 t1])
              clear hdx hs hXr hOr hx hX2 hO2 hs2 hx2
              go_wp2
              go_roundw
              case rel => exact ⟨j + 1, _, _, _, _, Q0.set j sx, Q1, by omega, by go_num, HS.out, HA.out, HB.out, HX.out, hq0.step (by rw [e2, e1]), hq1⟩
              case measure => simp [intOf]; omega
            · obtain rfl : j = n1 := by omega
              have hini : ¬ (j : Int) < (j : Int) := by omega
              go_wp2
              go_roundw
              case rel => exact ⟨_, _, _, _, Q0, Q1, hs, hT0, hT1, hx, .inr (.inl ⟨by go_num, hq0, hq1⟩)⟩
              case measure => simp [intOf]
        · go_wp2
          go_loopw [11] (fun i wq => ∃ (j : Nat) (T0 T1 : Option Addr) (t0 t1 : Nat) (Q0 Q1 : List St), j ≤ n1 ∧ i = .int .i64 j ∧ wq.heap[gs]? = some (.cells #[.int .u64 R, .slice T0 n1 t0, .slice T1 n1 t1] 69 (0, 0)) ∧ RowV wq T0 n1 t0 Q0 ∧ RowV wq T1 n1 t1 Q1 ∧ Ext W4 wq ∧ SyncTo l0 Q0 n1 ∧ SyncTo l1 Q1 j) (fun i _ => n1 - (intOf i).toNat)
          case atStart => exact ⟨0, _, _, _, _, L0, L1, Nat.zero_le _, rfl, hs, hS0, hS1, hx, hy0, hy1⟩
          case round =>
            clear hs hS0 hS1 hx hy0 hy1
            obtain ⟨j, T0, T1, t0, t1, Q0, Q1, hj, rfl, hs, hT0, hT1, hx, hq0, hq1⟩ := hrel
            have a1 : wr.cell? ⟨ga, 1, none⟩ = some (.slice A0 n1 c0) := hx.cell (by simp [World.cell?, hda])
            rcases Nat.lt_or_ge j n1 with hjn | hjn
            · have hini : (j : Int) < (n1 : Int) := by omega
              have hsx : Q1[j]? = some (Q1[j]'(by rw [hT1.len]; exact hjn)) := List.getElem?_eq_getElem _
              have hsm := (hT1.ok _ (List.mem_of_getElem? hsx)).small
              generalize (Q1[j]'(by rw [hT1.len]; exact hjn)) = s at *
              have b0 : wr.cell? ⟨gs, 0, none⟩ = some (.int .u64 R) := by simp [World.cell?, hs]
              have b1 : wr.cell? ⟨gs, 1, none⟩ = some (.slice T0 n1 t0) := by simp [World.cell?, hs]
              have b2 : wr.cell? ⟨gs, 2, none⟩ = some (.slice T1 n1 t1) := by simp [World.cell?, hs]
              go_wp2_with fail
              refine (dsync_row1 R T0 T1 n1 t0 n1 t1 j _ s _ hT1 hsx (by omega) (by omega) hsm).mono ?_
              rintro e w6 ⟨X, x, sx, rfl, hXr, ⟨e1, e2, e3⟩, hx6⟩
              replace hs := heap_ext hs hx6
              replace hx := hx.trans hx6
              have hOr := hT0.ext hx6
              clear a1 b0 b1 b2 hx6
              go_upto_region 15 with (fail)
              have hwa : Ext w6 (w6.alloc (.cells #[.int .u64 R, .slice T0 n1 t0, .slice X n1 x] 69)) := (Below.refl _ w6).alloc (Nat.le_refl _) _
              have hdx : (w6.alloc (.cells #[.int .u64 R, .slice T0 n1 t0, .slice X n1 x] 69)).heap[w6.heap.size]? = some (.cells #[.int .u64 R, .slice T0 n1 t0, .slice X n1 x] 69 (0, 0)) := heap_alloc_new w6 _
              have hlt6 : gs < w6.heap.size := (Array.getElem?_eq_some_iff.1 hs).1
              replace hs := heap_ext hs hwa
              replace hx := hx.trans hwa
              replace hXr := hXr.ext hwa
              replace hOr := hOr.ext hwa
              generalize w6.alloc (.cells #[.int .u64 R, .slice T0 n1 t0, .slice X n1 x] 69) = W6 at *
              generalize w6.heap.size = gx at *
              clear hwa
              have b0 : W6.cell? ⟨gx, 0, none⟩ = some (.int .u64 R) := by simp [World.cell?, hdx]
              have b1 : W6.cell? ⟨gx, 1, none⟩ = some (.slice T0 n1 t0) := by simp [World.cell?, hdx]
              have b2 : W6.cell? ⟨gx, 2, none⟩ = some (.slice X n1 x) := by simp [World.cell?, hdx]
              have d0 : W6.cell? ⟨gs, 0, none⟩ = some (.int .u64 R) := by simp [World.cell?, hs]
              have df0 : W6.frozen? ⟨gs, 0, none⟩ = false := by simp [World.frozen?, hs]
              have d1 : W6.cell? ⟨gs, 1, none⟩ = some (.slice T0 n1 t0) := by simp [World.cell?, hs]
              have df1 : W6.frozen? ⟨gs, 1, none⟩ = false := by simp [World.frozen?, hs]
              have d2 : W6.cell? ⟨gs, 2, none⟩ = some (.slice T1 n1 t1) := by simp [World.cell?, hs]
              have df2 : W6.frozen? ⟨gs, 2, none⟩ = false := by simp [World.frozen?, hs]
              have hX2 := fun vs => hXr.box hs (fun v hv => diskish_three v hv rfl rfl rfl) 0 vs
              have hO2 := fun vs => hOr.box hs (fun v hv => diskish_three v hv rfl rfl rfl) 0 vs
              have hs2 := setAll_all (vs := [.int .u64 R, .slice T0 n1 t0, .slice X n1 x]) (old := [.int .u64 R, .slice T0 n1 t0, .slice T1 n1 t1]) hs rfl
              have hx2 : Ext W4 (setAll gs 0 [.int .u64 R, .slice T0 n1 t0, .slice X n1 x] W6) := setAll_ext hx hgs'
              have HS := Lib.hid hs2
              have HX := Lib.hid hx2
              have HA := Lib.hid (hX2 [.int .u64 R, .slice T0 n1 t0, .slice X n1 x])
              have HB := Lib.hid (hO2 [.int .u64 R, .slice T0 n1 t0, .slice X n1 x])
              clear hdx hs hXr hOr hx hX2 hO2 hs2 hx2
              go_wp2
              go_roundw
              case rel => exact ⟨j + 1, _, _, _, _, Q0, Q1.set j sx, by omega, by go_num, HS.out, HB.out, HA.out, HX.out, hq0, hq1.step (by rw [e2, e1])⟩
              case measure => simp [intOf]; omega
            · obtain rfl : j = n1 := by omega
              have hini : ¬ (j : Int) < (j : Int) := by omega
              go_wp2
              go_roundw
              case rel => exact ⟨_, _, _, _, Q0, Q1, hs, hT0, hT1, hx, .inr (.inr ⟨by go_num, hq0, hq1⟩)⟩
              case measure => simp [intOf]
        · have hxq := hx
          clear hx
          have hF0 := hy0.full hlen0 hS0.ok
          have hF1 := hy1.full hlen1 hS1.ok
          have hX : ∀ wx, Ext wr wx → wx.cell? ⟨gc, 0, none⟩ = some (.int .u64 R) ∧ wx.cell? ⟨gc, 1, none⟩ = some (.slice C0 n1 d0) ∧ wx.cell? ⟨gc, 2, none⟩ = some (.slice C1 n1 d1) ∧ wx.cell? ⟨gs, 0, none⟩ = some (.int .u64 R) ∧ wx.cell? ⟨gs, 1, none⟩ = some (.slice S0 n1 s0) ∧ wx.cell? ⟨gs, 2, none⟩ = some (.slice S1 n1 s1) := fun wx h =>
            ⟨(hxq.trans h).cell (by simp [World.cell?, hdc]), (hxq.trans h).cell (by simp [World.cell?, hdc]), (hxq.trans h).cell (by simp [World.cell?, hdc]), h.cell (by simp [World.cell?, hs]), h.cell (by simp [World.cell?, hs]), h.cell (by simp [World.cell?, hs])⟩
          have hfr : ∀ (W : World) (l : List St), (∀ s ∈ l, s.full) → (∀ s ∈ l, StOK W s) → ∀ s ∈ l, rightB s.k s.q = true ∧ s.q ≤ 9223372036854775807 := fun W l hf hok s hs => ⟨(hf s hs).right, (hok s hs).small⟩
          have hcr := fun wx (h : Ext wr wx) => dcrash_any R C0 C1 n1 d0 n1 d1 K0 K1 N nn cn ns wx (hC0.ext (hxq.trans h)) (hC1.ext (hxq.trans h)) (by omega) (by omega) (hfr _ K0 hfull0 hC0.ok) (hfr _ K1 hfull1 hC1.ok) (hN.ext ((hW.trans hxq).trans h))
          have hcs := fun wx (h : Ext wr wx) => dcrash_any R S0 S1 n1 s0 n1 s1 L0 L1 N nn cn ns wx (hS0.ext h) (hS1.ext h) (by omega) (by omega) (hfr _ L0 hF0 hS0.ok) (hfr _ L1 hF1 hS1.ok) (hN.ext ((hW.trans hxq).trans h))
          have hK0 := hC0.len
          have hK1 := hC1.len
          have hL0 := hS0.len
          have hL1 := hS1.len
          go_wp2_with fail
          refine' wp_region_sure ⟨((some 60, [], none) :: (some 61, [0], none) :: (some 62, [1], some (1, true)) :: (some 63, [1], some (1, true)) :: (some 64, [2, 3, 1, 1], some (1, true)) :: (some 65, [1], some (1, true)) :: (some 66, [4, 5, 4, 1], some (1, true)) :: (some 67, [1, 6], none) :: (some 68, [7, 6], none) :: (some 69, [8], some (8, true)) :: (some 70, [8], some (8, true)) :: (some 71, [9, 10, 8, 8], some (8, true)) :: (some 72, [8], some (8, true)) :: (some 73, [11, 12, 11, 8], some (8, true)) :: (some 74, [8, 13], none) :: (some 6, [14, 13, 0, 1, 2, 3, 4, 5, 6, 7, 8, 9, 10, 11, 12, 13, 14], none) :: []), (0 :: 1 :: 3 :: 3 :: 15 :: 3 :: 63 :: 127 :: 255 :: 511 :: 511 :: 2047 :: 511 :: 8191 :: 16383 :: 32767 :: []), (true :: true :: true :: true :: false :: true :: true :: true :: true :: true :: true :: false :: true :: true :: true :: []), [], 0⟩ 15 75 ((0, 60) :: (1, 61) :: (2, 62) :: (3, 63) :: (4, 64) :: (5, 65) :: (6, 66) :: (7, 67) :: (8, 68) :: (9, 69) :: (10, 70) :: (11, 71) :: (12, 72) :: (13, 73) :: (14, 74) :: []) ((0, 60) :: (1, 61) :: (2, 62) :: (3, 63) :: (4, 64) :: (5, 65) :: (6, 66) :: (7, 67) :: (8, 68) :: (9, 69) :: (10, 70) :: (11, 71) :: (12, 72) :: (13, 73) :: (14, 74) :: []) (.det _ :: .det _ :: .det _ :: .det _ :: Good.of (fun v w => ∃ X0 X1 : List St, DkV w v R n1 n1 X0 X1 ∧ X0.map St.key = K0.map St.key ∧ X1.map St.key = K1.map St.key) (fun v w w' h hx => let ⟨X0, X1, hd, h0, h1⟩ := h; ⟨X0, X1, hd.ext hx, h0, h1⟩) :: .det _ :: .det _ :: .det _ :: .det _ :: .det _ :: .det _ :: Good.of (fun v w => ∃ X0 X1 : List St, DkV w v R n1 n1 X0 X1 ∧ X0.map St.key = L0.map St.key ∧ X1.map St.key = L1.map St.key) (fun v w w' h hx => let ⟨X0, X1, hd, h0, h1⟩ := h; ⟨X0, X1, hd.ext hx, h0, h1⟩) :: .det _ :: .det _ :: .det _ :: []) (by kernel_rfl) (by kernel_rfl) (by kernel_rfl) rfl (by kernel_rfl) (by kernel_rfl) rfl ?hone ?hend
          case hone =>
            intro CS frS VS hCS ha hV
            have qs2 := slot_val (t := 2) ha rfl
            simp only [List.getElem_toArray, List.getElem_cons_succ, List.getElem_cons_zero] at qs2
            have qs7 := slot_val (t := 7) ha rfl
            simp only [List.getElem_toArray, List.getElem_cons_succ, List.getElem_cons_zero] at qs7
            have qs8 := slot_val (t := 8) ha rfl
            simp only [List.getElem_toArray, List.getElem_cons_succ, List.getElem_cons_zero] at qs8
            have qs9 := slot_val (t := 9) ha rfl
            simp only [List.getElem_toArray, List.getElem_cons_succ, List.getElem_cons_zero] at qs9
            have HCS := Lib.hid hCS
            have HVS := Lib.hid hV
            clear ha hCS hV
            -- 0: slot 60 := Op.move t7
            refine sure_det (js := []) (ts := [7]) (gd := none) (place_at HVS.out (k := 0) rfl) (by rw [HCS.out]; kernel_rfl) ?_ ?_
            · intro wx hx ρ hρ hs hf
              have hρc := hρ.const
              have hρf := hρ.func
              obtain ⟨fx7, -⟩ := hf
              rw [qs7] at fx7
              clear hs
              clear HCS HVS qs2 qs7 qs8 qs9
              refine run_plain ?_
              refine op_move rfl fx7 ?_
              exact detK.mk
            -- 1: slot 61 := Op.move t60
            refine sure_det (js := [(0, 60)]) (ts := []) (gd := none) (place_at HVS.out (k := 1) rfl) (by rw [HCS.out]; kernel_rfl) ?_ ?_
            · intro wx hx ρ hρ hs hf
              have hρc := hρ.const
              have hρf := hρ.func
              obtain ⟨sn0, -⟩ := hs
              rw [place_at HVS.out (k := 0) rfl] at sn0
              replace sn0 : ρ (.tmp 60) = _ := sn0
              clear hf
              clear HCS HVS qs2 qs7 qs8 qs9
              refine run_plain ?_
              refine op_move rfl sn0 ?_
              exact detK.mk
            -- 2: slot 62 := Op.load 69 t8
            refine sure_det (js := [(1, 61)]) (ts := [8]) (gd := (some (61, true))) (place_at HVS.out (k := 2) rfl) (by rw [HCS.out]; kernel_rfl) ?_ ?_
            · intro wx hx ρ hρ hs hf
              have hρc := hρ.const
              have hρf := hρ.func
              obtain ⟨sn1, -⟩ := hs
              obtain ⟨fx8, -⟩ := hf
              rw [qs8] at fx8
              rw [place_at HVS.out (k := 1) rfl] at sn1
              replace sn1 : ρ (.tmp 61) = _ := sn1
              clear HCS HVS qs2 qs7 qs8 qs9
              first
                | (refine run_passed sn1 ?_
                   exact detK.mk)
                | (refine run_guarded sn1 ?_
                   obtain ⟨p0, p1, p2, p3, p4, p5⟩ := hX wx hx.drawn
                   unfold runs
                   go_simp
                   exact detK.mk)
            -- 3: slot 63 := Op.move t2
            refine sure_det (js := [(1, 61)]) (ts := [2]) (gd := (some (61, true))) (place_at HVS.out (k := 3) rfl) (by rw [HCS.out]; kernel_rfl) ?_ ?_
            · intro wx hx ρ hρ hs hf
              have hρc := hρ.const
              have hρf := hρ.func
              obtain ⟨sn1, -⟩ := hs
              obtain ⟨fx2, -⟩ := hf
              rw [qs2] at fx2
              rw [place_at HVS.out (k := 1) rfl] at sn1
              replace sn1 : ρ (.tmp 61) = _ := sn1
              clear HCS HVS qs2 qs7 qs8 qs9
              first
                | (refine run_passed sn1 ?_
                   exact detK.mk)
                | (refine run_guarded sn1 ?_
                   refine op_move rfl fx2 ?_
                   exact detK.mk)
            -- 4: slot 64 := Op.call { call ( 49), args := #[t62, t63], argTypes := #[69, 32] }
            refine sure_op (js := [(2, 62), (3, 63), (1, 61)]) (ts := []) (gd := (some (61, true))) (place_at HVS.out (k := 4) rfl) (by rw [HCS.out]; kernel_rfl) ?_ ?_
            · intro wx hx ρ hρ hs hf
              have hρc := hρ.const
              have hρf := hρ.func
              obtain ⟨sn2, sn3, sn1, -⟩ := hs
              rw [place_at HVS.out (k := 2) rfl] at sn2
              replace sn2 : ρ (.tmp 62) = _ := sn2
              rw [place_at HVS.out (k := 3) rfl] at sn3
              replace sn3 : ρ (.tmp 63) = _ := sn3
              rw [place_at HVS.out (k := 1) rfl] at sn1
              replace sn1 : ρ (.tmp 61) = _ := sn1
              clear hf
              clear HCS HVS qs2 qs7 qs8 qs9
              refine run_guarded sn1 ?_
              refine op_call rfl hρ Try.call49 (map_two sn2 sn3) ?_
              refine Calls.mono (hcr _ hx.drawn) ?_
              rintro e w' ⟨B0, B1, b0, b1, X0, X1, rfl, hv0, hv1, hc0, hc1, hx5⟩
              exact ⟨_, rfl, hx5, X0, X1, ⟨⟨_, _, _, _, rfl, hv0, hv1⟩⟩, hc0.same hK0 hfull0, hc1.same hK1 hfull1⟩
            -- 5: slot 65 := Op.load 69 t8
            refine sure_det (js := [(1, 61)]) (ts := [8]) (gd := (some (61, true))) (place_at HVS.out (k := 5) rfl) (by rw [HCS.out]; kernel_rfl) ?_ ?_
            · intro wx hx ρ hρ hs hf
              have hρc := hρ.const
              have hρf := hρ.func
              obtain ⟨sn1, -⟩ := hs
              obtain ⟨fx8, -⟩ := hf
              rw [qs8] at fx8
              rw [place_at HVS.out (k := 1) rfl] at sn1
              replace sn1 : ρ (.tmp 61) = _ := sn1
              clear HCS HVS qs2 qs7 qs8 qs9
              first
                | (refine run_passed sn1 ?_
                   exact detK.mk)
                | (refine run_guarded sn1 ?_
                   obtain ⟨p0, p1, p2, p3, p4, p5⟩ := hX wx hx.drawn
                   unfold runs
                   go_simp
                   exact detK.mk)
            -- 6: slot 66 := Op.call { call ( 38), args := #[t64, t65], argTypes := #[69, 69] }
            refine sure_det (js := [(4, 64), (5, 65), (1, 61)]) (ts := []) (gd := (some (61, true))) (place_at HVS.out (k := 6) rfl) (by rw [HCS.out]; kernel_rfl) ?_ ?_
            · intro wx hx ρ hρ hs hf
              have hρc := hρ.const
              have hρf := hρ.func
              obtain ⟨sn4, sn5, sn1, -⟩ := hs
              rw [place_at HVS.out (k := 4) rfl] at sn4
              replace sn4 : ∃ X0 X1 : List St, DkV wx (ρ (.tmp 64)) R n1 n1 X0 X1 ∧ X0.map St.key = K0.map St.key ∧ X1.map St.key = K1.map St.key := sn4
              rw [place_at HVS.out (k := 5) rfl] at sn5
              replace sn5 : ρ (.tmp 65) = _ := sn5
              rw [place_at HVS.out (k := 1) rfl] at sn1
              replace sn1 : ρ (.tmp 61) = _ := sn1
              clear hf
              clear HCS HVS qs2 qs7 qs8 qs9
              first
                | (refine run_passed sn1 ?_
                   exact detK.mk)
                | (refine run_guarded sn1 ?_
                   obtain ⟨X0, X1, ⟨⟨B0, B1, b0, b1, e4, hB0, hB1⟩⟩, hk0, hk1⟩ := sn4
                   refine op_call rfl hρ Try.call38 (map_two e4 sn5) ?_
                   refine Calls.mono (dsame_yes R B0 B1 C0 C1 n1 b0 n1 b1 d0 d1 X0 X1 _ _ _ hB0 hB1 (hC0.ext (hxq.trans hx.drawn)) (hC1.ext (hxq.trans hx.drawn)) hk0 hk1) ?_
                   rintro e w' ⟨rfl, hx5⟩
                   refine ⟨_, rfl, ?_⟩
                   exact detK.ext hx5)
            -- 7: slot 67 := Op.pick t61 t66 ((Value.bool false))
            refine sure_det (js := [(1, 61), (6, 66)]) (ts := []) (gd := none) (place_at HVS.out (k := 7) rfl) (by rw [HCS.out]; kernel_rfl) ?_ ?_
            · intro wx hx ρ hρ hs hf
              have hρc := hρ.const
              have hρf := hρ.func
              obtain ⟨sn1, sn6, -⟩ := hs
              rw [place_at HVS.out (k := 1) rfl] at sn1
              replace sn1 : ρ (.tmp 61) = _ := sn1
              rw [place_at HVS.out (k := 6) rfl] at sn6
              replace sn6 : ρ (.tmp 66) = _ := sn6
              clear hf
              clear HCS HVS qs2 qs7 qs8 qs9
              refine run_plain ?_
              first | refine op_pick_t rfl sn1 sn6 ?_ | refine op_pick_f rfl sn1 (hρ.const _) ?_
              exact detK.mk
            -- 8: slot 68 := Op.move t67
            refine sure_det (js := [(7, 67)]) (ts := []) (gd := none) (place_at HVS.out (k := 8) rfl) (by rw [HCS.out]; kernel_rfl) ?_ ?_
            · intro wx hx ρ hρ hs hf
              have hρc := hρ.const
              have hρf := hρ.func
              obtain ⟨sn7, -⟩ := hs
              rw [place_at HVS.out (k := 7) rfl] at sn7
              replace sn7 : ρ (.tmp 67) = _ := sn7
              clear hf
              clear HCS HVS qs2 qs7 qs8 qs9
              refine run_plain ?_
              refine op_move rfl sn7 ?_
              exact detK.mk
            -- 9: slot 69 := Op.load 69 t9
            refine sure_det (js := [(8, 68)]) (ts := [9]) (gd := (some (68, true))) (place_at HVS.out (k := 9) rfl) (by rw [HCS.out]; kernel_rfl) ?_ ?_
            · intro wx hx ρ hρ hs hf
              have hρc := hρ.const
              have hρf := hρ.func
              obtain ⟨sn8, -⟩ := hs
              obtain ⟨fx9, -⟩ := hf
              rw [qs9] at fx9
              rw [place_at HVS.out (k := 8) rfl] at sn8
              replace sn8 : ρ (.tmp 68) = _ := sn8
              clear HCS HVS qs2 qs7 qs8 qs9
              first
                | (refine run_passed sn8 ?_
                   exact detK.mk)
                | (refine run_guarded sn8 ?_
                   obtain ⟨p0, p1, p2, p3, p4, p5⟩ := hX wx hx.drawn
                   unfold runs
                   go_simp
                   exact detK.mk)
            -- 10: slot 70 := Op.move t2
            refine sure_det (js := [(8, 68)]) (ts := [2]) (gd := (some (68, true))) (place_at HVS.out (k := 10) rfl) (by rw [HCS.out]; kernel_rfl) ?_ ?_
            · intro wx hx ρ hρ hs hf
              have hρc := hρ.const
              have hρf := hρ.func
              obtain ⟨sn8, -⟩ := hs
              obtain ⟨fx2, -⟩ := hf
              rw [qs2] at fx2
              rw [place_at HVS.out (k := 8) rfl] at sn8
              replace sn8 : ρ (.tmp 68) = _ := sn8
              clear HCS HVS qs2 qs7 qs8 qs9
              first
                | (refine run_passed sn8 ?_
                   exact detK.mk)
                | (refine run_guarded sn8 ?_
                   refine op_move rfl fx2 ?_
                   exact detK.mk)
            -- 11: slot 71 := Op.call { call ( 49), args := #[t69, t70], argTypes := #[69, 32] }
            refine sure_op (js := [(9, 69), (10, 70), (8, 68)]) (ts := []) (gd := (some (68, true))) (place_at HVS.out (k := 11) rfl) (by rw [HCS.out]; kernel_rfl) ?_ ?_
            · intro wx hx ρ hρ hs hf
              have hρc := hρ.const
              have hρf := hρ.func
              obtain ⟨sn9, sn10, sn8, -⟩ := hs
              rw [place_at HVS.out (k := 9) rfl] at sn9
              replace sn9 : ρ (.tmp 69) = _ := sn9
              rw [place_at HVS.out (k := 10) rfl] at sn10
              replace sn10 : ρ (.tmp 70) = _ := sn10
              rw [place_at HVS.out (k := 8) rfl] at sn8
              replace sn8 : ρ (.tmp 68) = _ := sn8
              clear hf
              clear HCS HVS qs2 qs7 qs8 qs9
              refine run_guarded sn8 ?_
              refine op_call rfl hρ Try.call49 (map_two sn9 sn10) ?_
              refine Calls.mono (hcs _ hx.drawn) ?_
              rintro e w' ⟨B0, B1, b0, b1, X0, X1, rfl, hv0, hv1, hc0, hc1, hx5⟩
              exact ⟨_, rfl, hx5, X0, X1, ⟨⟨_, _, _, _, rfl, hv0, hv1⟩⟩, hc0.same hL0 hF0, hc1.same hL1 hF1⟩
            -- 12: slot 72 := Op.load 69 t9
            refine sure_det (js := [(8, 68)]) (ts := [9]) (gd := (some (68, true))) (place_at HVS.out (k := 12) rfl) (by rw [HCS.out]; kernel_rfl) ?_ ?_
            · intro wx hx ρ hρ hs hf
              have hρc := hρ.const
              have hρf := hρ.func
              obtain ⟨sn8, -⟩ := hs
              obtain ⟨fx9, -⟩ := hf
              rw [qs9] at fx9
              rw [place_at HVS.out (k := 8) rfl] at sn8
              replace sn8 : ρ (.tmp 68) = _ := sn8
              clear HCS HVS qs2 qs7 qs8 qs9
              first
                | (refine run_passed sn8 ?_
                   exact detK.mk)
                | (refine run_guarded sn8 ?_
                   obtain ⟨p0, p1, p2, p3, p4, p5⟩ := hX wx hx.drawn
                   unfold runs
                   go_simp
                   exact detK.mk)
            -- 13: slot 73 := Op.call { call ( 38), args := #[t71, t72], argTypes := #[69, 69] }
            refine sure_det (js := [(11, 71), (12, 72), (8, 68)]) (ts := []) (gd := (some (68, true))) (place_at HVS.out (k := 13) rfl) (by rw [HCS.out]; kernel_rfl) ?_ ?_
            · intro wx hx ρ hρ hs hf
              have hρc := hρ.const
              have hρf := hρ.func
              obtain ⟨sn11, sn12, sn8, -⟩ := hs
              rw [place_at HVS.out (k := 11) rfl] at sn11
              replace sn11 : ∃ X0 X1 : List St, DkV wx (ρ (.tmp 71)) R n1 n1 X0 X1 ∧ X0.map St.key = L0.map St.key ∧ X1.map St.key = L1.map St.key := sn11
              rw [place_at HVS.out (k := 12) rfl] at sn12
              replace sn12 : ρ (.tmp 72) = _ := sn12
              rw [place_at HVS.out (k := 8) rfl] at sn8
              replace sn8 : ρ (.tmp 68) = _ := sn8
              clear hf
              clear HCS HVS qs2 qs7 qs8 qs9
              first
                | (refine run_passed sn8 ?_
                   exact detK.mk)
                | (refine run_guarded sn8 ?_
                   obtain ⟨X0, X1, ⟨⟨B0, B1, b0, b1, e11, hB0, hB1⟩⟩, hk0, hk1⟩ := sn11
                   refine op_call rfl hρ Try.call38 (map_two e11 sn12) ?_
                   refine Calls.mono (dsame_yes R B0 B1 S0 S1 n1 b0 n1 b1 s0 s1 X0 X1 _ _ _ hB0 hB1 (hS0.ext hx.drawn) (hS1.ext hx.drawn) hk0 hk1) ?_
                   rintro e w' ⟨rfl, hx5⟩
                   refine ⟨_, rfl, ?_⟩
                   exact detK.ext hx5)
            -- 14: slot 74 := Op.pick t68 t73 ((Value.bool false))
            refine sure_det (js := [(8, 68), (13, 73)]) (ts := []) (gd := none) (place_at HVS.out (k := 14) rfl) (by rw [HCS.out]; kernel_rfl) ?_ ?_
            · intro wx hx ρ hρ hs hf
              have hρc := hρ.const
              have hρf := hρ.func
              obtain ⟨sn8, sn13, -⟩ := hs
              rw [place_at HVS.out (k := 8) rfl] at sn8
              replace sn8 : ρ (.tmp 68) = _ := sn8
              rw [place_at HVS.out (k := 13) rfl] at sn13
              replace sn13 : ρ (.tmp 73) = _ := sn13
              clear hf
              clear HCS HVS qs2 qs7 qs8 qs9
              refine run_plain ?_
              first | refine op_pick_t rfl sn8 sn13 ?_ | refine op_pick_f rfl sn8 (hρ.const _) ?_
              exact detK.mk
            exact trivial
          case hend =>
            intro xs wx hx hg
            have gk0 : xs 0 = _ := goods_get hg (i := 0) (j := 0) (d := 60) rfl
            have gk1 : xs 1 = _ := goods_get hg (i := 1) (j := 1) (d := 61) rfl
            have gk2 : xs 2 = _ := goods_get hg (i := 2) (j := 2) (d := 62) rfl
            have gk3 : xs 3 = _ := goods_get hg (i := 3) (j := 3) (d := 63) rfl
            have gk4 : ∃ X0 X1 : List St, DkV wx (xs 4) R n1 n1 X0 X1 ∧ X0.map St.key = K0.map St.key ∧ X1.map St.key = K1.map St.key := goods_get hg (i := 4) (j := 4) (d := 64) rfl
            have gk5 : xs 5 = _ := goods_get hg (i := 5) (j := 5) (d := 65) rfl
            have gk6 : xs 6 = _ := goods_get hg (i := 6) (j := 6) (d := 66) rfl
            have gk7 : xs 7 = _ := goods_get hg (i := 7) (j := 7) (d := 67) rfl
            have gk8 : xs 8 = _ := goods_get hg (i := 8) (j := 8) (d := 68) rfl
            have gk9 : xs 9 = _ := goods_get hg (i := 9) (j := 9) (d := 69) rfl
            have gk10 : xs 10 = _ := goods_get hg (i := 10) (j := 10) (d := 70) rfl
            have gk11 : ∃ X0 X1 : List St, DkV wx (xs 11) R n1 n1 X0 X1 ∧ X0.map St.key = L0.map St.key ∧ X1.map St.key = L1.map St.key := goods_get hg (i := 11) (j := 11) (d := 71) rfl
            have gk12 : xs 12 = _ := goods_get hg (i := 12) (j := 12) (d := 72) rfl
            have gk13 : xs 13 = _ := goods_get hg (i := 13) (j := 13) (d := 73) rfl
            have gk14 : xs 14 = _ := goods_get hg (i := 14) (j := 14) (d := 74) rfl
            clear hg
            simp only [putAll, gk0, gk1, gk2, gk3, gk5, gk6, gk7, gk8, gk9, gk10, gk12, gk13, gk14]
            clear gk0 gk1 gk2 gk3 gk5 gk6 gk7 gk8 gk9 gk10 gk12 gk13 gk14
            generalize xs 4 = vx4 at gk4 ⊢
            generalize xs 11 = vx11 at gk11 ⊢
            clear xs
            simp only [Act.put, List.setIfInBounds_toArray, List.set_cons_zero, List.set_cons_succ, List.drop_succ_cons, List.drop_zero]
            go_wp2
            go_ret
            exact ⟨rfl, (hW.trans hxq).trans hx.drawn⟩
set_option maxRecDepth 100000 in
theorem open_disk_top {H : Type} {enc : TypeId × Value → H} {w : World} {base : Nat} {b0 : Nat} {v : Value} {d : DataW H} {p : List MemPlace} (hv : Value.okWide Try.prog w .any b0 69 v) (h : DataW.Trod enc Try.prog w base (fun _ => true) true 69 v d p) :
    ∃ (R : Int) (A0 A1 : Option Addr) (n0 c0 n1 c1 : Nat) (l0 l1 : List St), v = .agg #[.int .u64 R, .slice A0 n0 c0, .slice A1 n1 c1] ∧ RowV w A0 n0 c0 l0 ∧ RowV w A1 n1 c1 l1 := by
  obtain ⟨cs, rfl, hsz⟩ := okWide_struct Try.underlying69 hv
  obtain ⟨fuel, hf⟩ := h
  obtain ⟨R, A0, A1, n0, c0, n1, c1, l0, l1, e, h0, h1, -⟩ := open_disk (by rw [← cellsDiskE]; simpa [Value.cells] using hsz) hf
  refine ⟨R, A0, A1, n0, c0, n1, c1, l0, l1, ?_, h0, h1⟩
  have e2 : cs.toList = [.int .u64 R, .slice A0 n0 c0, .slice A1 n1 c1] := by simpa [Value.cells] using e
  rw [← Array.toArray_toList (xs := cs), e2]
set_option maxRecDepth 100000 in
theorem open_ints_top {H : Type} {enc : TypeId × Value → H} {w : World} {base : Nat} {b0 : Nat} {v : Value} {d : DataW H} {p : List MemPlace} (hv : Value.okWide Try.prog w .any b0 32 v) (h : DataW.Trod enc Try.prog w base (fun _ => true) true 32 v d p) :
    ∃ A n c l, v = .slice A n c ∧ IntsV w A n c l := by
  obtain ⟨A0, n0, c0, rfl⟩ := okWide_slice Try.underlying32 hv
  obtain ⟨fuel, hf⟩ := h
  obtain ⟨A, n, c, l, e, hV⟩ := open_intsv7 hf
  simp [Value.cells] at e
  obtain ⟨rfl, rfl, rfl⟩ := e
  exact ⟨A0, n0, c0, l, rfl, hV⟩
set_option maxRecDepth 100000 in
theorem DiskTwice_lifted (os : Os) (started : os.Started) (H : Type) (enc : TypeId × Value → H) :
    ReturnsInHanded {} Try.checked os 12 .any (Rows.diskTwiceSpec.pre6 enc Try.prog Try.f12 Rows.diskTwiceRow.domain false) (Rows.diskTwiceSpec.post enc Try.prog Try.f12 false true false false) := by
  refine law_row os started H enc Rows.diskTwiceSpec rfl (fun ds h => by
    match ds, h with
    | [_, _, _], _ => rfl) (by kernel_rfl) Try.func12 rfl
    (by rw [Try.params12]; intro t ht; simp at ht; rcases ht with rfl | rfl <;> exact ⟨by kernel_rfl, of_decide_eq_true (by kernel_rfl)⟩)
    (ChangeSpec.witness6 (enc := enc) (C := Try.checked) false ⟨#[], #[.agg #[.int .u64 0, .slice none 0 0, .slice none 0 0], .slice none 0 0, .slice none 0 0], []⟩ 8 (by kernel_rfl) (by kernel_rfl) (by kernel_rfl) (by kernel_rfl)) ?_
  intro W base args ds ps hval hA hlt
  rw [Try.params12] at hA hval
  obtain ⟨v0, v1, v2, d0, d1, d2, p0, p1, p2, rfl, rfl, rfl, h0, h1, h2⟩ := trodAll_three hA
  obtain ⟨R, A0, A1, n0, c0, n1, c1, l0, l1, rfl, hr0, hr1⟩ := open_disk_top (hval 0 _ v0 rfl rfl) h0
  obtain ⟨M, m, cm, ms, rfl, hM⟩ := open_ints_top (hval 1 _ v1 rfl rfl) h1
  obtain ⟨N, nn, cn, ns, rfl, hN⟩ := open_ints_top (hval 2 _ v2 rfl rfl) h2
  exact dtwice_walk R A0 A1 n0 c0 n1 c1 l0 l1 M N m cm nn cn ms ns W hr0 hr1 hM hN
theorem DiskTwice_holds : Rows.DiskTwiceSaid :=
  OpenClaim.holds_of_wide 12 Try.f12 rfl rfl rfl rfl rfl rfl rfl ⟨rfl, rfl, rfl, rfl, rfl⟩ rfl rfl rfl rfl rfl (by kernel_rfl) Try.func12 (by kernel_rfl)
    (of_decide_eq_true (by kernel_rfl)) (by unfold Func.isWrapper; rw [if_neg (of_decide_eq_false (by kernel_rfl))]; exact ⟨rfl, rfl⟩)
    (fun os started H enc _ => DiskTwice_lifted os started H enc)
#print axioms DiskTwice_holds
end Go.Proofs.Ythgcpfofdbdkpaa
