import Derived.Test.YtennnhfaghdeoaaDiskNewF
import Derived.Test.YtennnhfaghdeoaaDiskKey
namespace Go.Proofs.Ytennnhfaghdeoaa
open Go.RowKit

/-! disk.Crash. -/
theorem info_int : (Try.prog.info? 3).map (fun i => (i.zero, i.size, i.bytes)) = some (some (.int .i64 0), 1, 8) := by kernel_rfl
/-- all but the first -/
theorem IntsV.tail {w : World} {M : Option Addr} {n c : Nat} {z : Int} {ms : List Int} (h : IntsV w M n c (z :: ms)) :
    ∃ M', (∀ W : World, (Instr.slice 44 (.slice M n c) (some (.int .i64 1)) none none).run Try.prog W = .ok (.slice M' (n - 1) (c - 1)) W) ∧ IntsV w M' (n - 1) (c - 1) ms := by
  obtain ⟨i0, hi0, hz0, hz1, hz2⟩ := info_parts info_int
  have hlen := h.len
  have hle := h.le
  simp only [List.length_cons] at hlen
  refine ⟨if c = 1 then M else M.map (·.add 1), fun W => ?_, by omega, by omega, fun j y hj => ?_⟩
  · have h1 : 1 ≤ n := by omega
    have h2 : 1 ≤ c := by omega
    simp [Instr.slice, run_underlying Try.underlying44, Instr.sliceBounds, Instr.sliceBound, asIntOf, sizeOf, typeInfo, hi0, hz1, h1, h2, hle]
    intro h
    omega
  · have hjl := (List.getElem?_eq_some_iff.1 hj).1
    obtain ⟨a, rfl, hc⟩ := h.at_ (j + 1) y (by simpa using hj)
    rw [if_neg (by omega)]
    exact ⟨a.add 1, rfl, by rw [addr_add_add, Nat.add_comm]; exact hc⟩
/-- a stream behind a crash -/
def St.cut (s : St) (m : Int) : St := ⟨s.D, cutN s.q s.k m, cutN s.q s.k m, cutN s.q s.k m, s.d.take (cutN s.q s.k m)⟩
theorem StOK.cut {w : World} {s : St} (h : StOK w s) (hr : rightB s.k s.q = true) (m : Int) : StOK w (s.cut m) := by
  obtain ⟨h0, h1⟩ := rightB_spec hr
  exact BytesV.cut h (cutN_le h0 h1)
theorem stcut_any (s : St) (m : Int) (w : World) (h : StOK w s) (hq : s.q ≤ 9223372036854775807) (hr : rightB s.k s.q = true) :
    Calls Try.prog 48 #[.agg #[.slice s.D s.q s.cd, .int .i64 s.k], .int .i64 m] w fun e w' => e = .returned (.agg #[.slice (s.cut m).D (s.cut m).q (s.cut m).cd, .int .i64 (s.cut m).k]) ∧ Ext w w' := by
  obtain ⟨h0, h1⟩ := rightB_spec hr
  exact cut_any s.D s.q s.cd s.k m hq h.le h0 h1 w
/-- rows of which so many streams are behind a crash -/
def CutTo (l L : List St) (ms : List Int) (j : Nat) : Prop := L.length = l.length ∧ ∀ (i : Nat) (s : St), l[i]? = some s → L[i]? = some (if i < j then s.cut (ms.getD i 0) else s)
theorem CutTo.zero (l : List St) (ms : List Int) : CutTo l l ms 0 := ⟨rfl, fun i s h => by rw [if_neg (Nat.not_lt_zero _)]; exact h⟩
theorem CutTo.step {l L : List St} {ms : List Int} {j : Nat} {s : St} (h : CutTo l L ms j) (hs : l[j]? = some s) : CutTo l (L.set j (s.cut (ms.getD j 0))) ms (j + 1) := by
  refine ⟨by rw [List.length_set]; exact h.1, fun i x hx => ?_⟩
  by_cases hij : i = j
  · subst hij
    rw [hs] at hx
    cases hx
    rw [if_pos (Nat.lt_succ_self _), List.getElem?_set_self (by rw [h.1]; exact (List.getElem?_eq_some_iff.1 hs).1)]
  · rw [List.getElem?_set_ne (fun e => hij e.symm), h.2 i x hx]
    by_cases hlt : i < j
    · rw [if_pos hlt, if_pos (by omega)]
    · rw [if_neg hlt, if_neg (by omega)]
theorem CutTo.now {l L : List St} {ms : List Int} {j : Nat} {s : St} (h : CutTo l L ms j) (hs : l[j]? = some s) : L[j]? = some s := by
  have := h.2 j s hs
  rwa [if_neg (Nat.lt_irrefl _)] at this
/-- they may be read wherever the streams before the crash may -/
theorem CutTo.ok {w : World} {l L : List St} {ms : List Int} {j : Nat} (h : CutTo l L ms j) (hok : ∀ s ∈ l, StOK w s) (hr : ∀ s ∈ l, rightB s.k s.q = true ∧ s.q ≤ 9223372036854775807) : ∀ x ∈ L, StOK w x := fun x hx => by
  obtain ⟨i, hi⟩ := List.getElem?_of_mem hx
  have hil : i < l.length := by rw [← h.1]; exact (List.getElem?_eq_some_iff.1 hi).1
  have hm : l[i] ∈ l := List.getElem_mem hil
  have := h.2 i l[i] (List.getElem?_eq_getElem hil)
  rw [hi] at this
  cases this
  split
  · exact (hok _ hm).cut (hr _ hm).1 _
  · exact hok _ hm
theorem CutTo.far {w : World} {l L : List St} {ms : List Int} {j : Nat} (h : CutTo l L ms j) (hok : ∀ s ∈ l, StOK w s) : ∀ x ∈ L, x.d ≠ [] → ∀ a, x.D = some a → a.block < w.heap.size := fun x hx hd a ha => by
  obtain ⟨i, hi⟩ := List.getElem?_of_mem hx
  have hil : i < l.length := by rw [← h.1]; exact (List.getElem?_eq_some_iff.1 hi).1
  have hm : l[i] ∈ l := List.getElem_mem hil
  have := h.2 i l[i] (List.getElem?_eq_getElem hil)
  have hx2 := (Option.some.inj (hi.symm.trans this)).symm
  by_cases hij : i < j
  · rw [if_pos hij] at hx2
    subst hx2
    exact (hok _ hm).low (fun e => hd (by simp [St.cut, e])) a ha
  · rw [if_neg hij] at hx2
    subst hx2
    exact (hok _ hm).low hd a ha
theorem own_lt {w : World} {base : Nat} {A : Option Addr} {n c n' : Nat} {xs : List Value} (h : w.ownsRow base 90 2 (.slice A n c) n' xs) : ∀ a, A = some a → base ≤ a.block ∧ a.block < w.heap.size := fun a ha => by
  rcases h.2 with ⟨e, _⟩ | ⟨g, cap, cur, h3, h4, h5, _⟩
  · rw [ha] at e; cases e
  · obtain rfl : a = ⟨g, 0, none⟩ := by
      have := (Value.slice.inj h3).1
      rw [ha] at this
      exact Option.some.inj this
    exact ⟨h4, (Array.getElem?_eq_some_iff.1 h5).1⟩
theorem own_other {w : World} {base : Nat} {A : Option Addr} {n c n' : Nat} {xs : List Value} (h : w.ownsRow base 90 2 (.slice A n c) n' xs) {p : Addr} {u : Value} (hp : ∀ a, A = some a → a.block ≠ p.block) : (w.setCell p u).ownsRow base 90 2 (.slice A n c) n' xs := by
  refine ⟨h.1, ?_⟩
  rcases h.2 with h2 | ⟨g, cap, cur, h3, h4, h5, h6⟩
  · exact .inl h2
  · refine .inr ⟨g, cap, cur, h3, h4, ?_, h6⟩
    rw [Below.heap_setCell _ _ _ _ (hp _ (Value.slice.inj h3).1)]
    exact h5
theorem own_low {w : World} {base base' : Nat} {v : Value} {n : Nat} {xs : List Value} (h : w.ownsRow base 90 2 v n xs) (hb : base' ≤ base) : w.ownsRow base' 90 2 v n xs := by
  refine ⟨h.1, ?_⟩
  rcases h.2 with h2 | ⟨g, cap, cur, h3, h4, h5⟩
  · exact .inl h2
  · exact .inr ⟨g, cap, cur, h3, Nat.le_trans hb h4, h5⟩
theorem getD_drop0 (ms : List Int) (j : Nat) : ms.getD j 0 = (ms.drop j).headD 0 := by
  simp only [List.getD_eq_getElem?_getD, List.headD_eq_head?_getD, List.head?_drop]
set_option maxRecDepth 100000 in
set_option maxHeartbeats 8000000 in
theorem dcrash_any (R : Int) (A0 A1 : Option Addr) (n0 c0 n1 c1 : Nat) (l0 l1 : List St) (M : Option Addr) (nM cM : Nat) (ms : List Int) (w : World) (h0 : RowV w A0 n0 c0 l0) (h1 : RowV w A1 n1 c1 l1) (hn0 : n0 ≤ 1000) (hn1 : n1 ≤ 1000)
    (hr0 : ∀ s ∈ l0, rightB s.k s.q = true ∧ s.q ≤ 9223372036854775807) (hr1 : ∀ s ∈ l1, rightB s.k s.q = true ∧ s.q ≤ 9223372036854775807) (hM : IntsV w M nM cM ms) :
    Calls Try.prog 76 #[.agg #[.int .u64 R, .slice A0 n0 c0, .slice A1 n1 c1], .slice M nM cM] w fun e w' => ∃ (A0' A1' : Option Addr) (c0' c1' : Nat) (L0 L1 : List St), e = .returned (.agg #[.int .u64 R, .slice A0' n0 c0', .slice A1' n1 c1']) ∧
      RowV w' A0' n0 c0' L0 ∧ RowV w' A1' n1 c1' L1 ∧ CutTo l0 L0 ms n0 ∧ CutTo l1 L1 (ms.drop n0) n1 ∧ Ext w w' := by
  have hlen0 := h0.len
  have hlen1 := h1.len
  go_enter Try.func76, Try.ntmps76
  go_upto_region 1 with (fail)
  obtain ⟨hW, hE, hO⟩ := two_boxes7 w (.cells #[.int .u64 R, .slice A0 n0 c0, .slice A1 n1 c1] 30) (.cells #[.int .u64 0, .slice none 0 0, .slice none 0 0] 30)
  generalize (w.alloc (.cells #[.int .u64 R, .slice A0 n0 c0, .slice A1 n1 c1] 30)).alloc (.cells #[.int .u64 0, .slice none 0 0, .slice none 0 0] 30) = W at *
  go_wp2
  go_loopw [1, 9] (fun mo i wr => Ext w wr ∧ wr.heap[w.heap.size + 1]? = some (.cells #[.int .u64 0, .slice none 0 0, .slice none 0 0] 30 (0, 0)) ∧
    ((i = .int .i64 0 ∧ wr.heap[w.heap.size]? = some (.cells #[.int .u64 R, .slice A0 n0 c0, .slice A1 n1 c1] 30 (0, 0)) ∧ mo = .slice M nM cM) ∨
     (∃ (B0 : Option Addr) (b0 : Nat) (L0 : List St) (M1 : Option Addr) (m1 k1 : Nat), i = .int .i64 1 ∧ wr.heap[w.heap.size]? = some (.cells #[.int .u64 R, .slice B0 n0 b0, .slice A1 n1 c1] 30 (0, 0)) ∧ mo = .slice M1 m1 k1 ∧ IntsV w M1 m1 k1 (ms.drop n0) ∧ wr.ownsRow (w.heap.size + 2) 90 2 (.slice B0 n0 b0) n0 (rowCells L0) ∧ CutTo l0 L0 ms n0) ∨
     (∃ (B0 B1 : Option Addr) (b0 b1 : Nat) (L0 L1 : List St), i = .int .i64 2 ∧ wr.heap[w.heap.size]? = some (.cells #[.int .u64 R, .slice B0 n0 b0, .slice B1 n1 b1] 30 (0, 0)) ∧ wr.ownsRow (w.heap.size + 2) 90 2 (.slice B0 n0 b0) n0 (rowCells L0) ∧ wr.ownsRow (w.heap.size + 2) 90 2 (.slice B1 n1 b1) n1 (rowCells L1) ∧ CutTo l0 L0 ms n0 ∧ CutTo l1 L1 (ms.drop n0) n1))) (fun _ i _ => 2 - (intOf i).toNat)
  case atStart => exact ⟨hW, hO, .inl ⟨rfl, hE, rfl⟩⟩
  case round =>
    clear hW hE hO
    obtain ⟨hx, hO, ⟨rfl, hE, rfl⟩ | ⟨B0, b0, L0, M1, m1, k1, rfl, hE, rfl, hM1, hR0, hC0⟩ | ⟨B0, B1, b0, b1, L0, L1, rfl, hE, hR0, hR1, hC0, hC1⟩⟩ := hrel
    · have hlt : w.heap.size + 1 < wr.heap.size := (Array.getElem?_eq_some_iff.1 hO).1
      have e0 : wr.cell? ⟨w.heap.size, 0, none⟩ = some (.int .u64 R) := by simp [World.cell?, hE]
      have ef0 : wr.frozen? ⟨w.heap.size, 0, none⟩ = false := by simp [World.frozen?, hE]
      have e1 : wr.cell? ⟨w.heap.size, 1, none⟩ = some (.slice A0 n0 c0) := by simp [World.cell?, hE]
      have ef1 : wr.frozen? ⟨w.heap.size, 1, none⟩ = false := by simp [World.frozen?, hE]
      have e2 : wr.cell? ⟨w.heap.size, 2, none⟩ = some (.slice A1 n1 c1) := by simp [World.cell?, hE]
      have ef2 : wr.frozen? ⟨w.heap.size, 2, none⟩ = false := by simp [World.frozen?, hE]
      go_wp2_with fail
      refine (clone_row A0 n0 c0 l0 _ (h0.ext hx) (by omega)).mono ?_
      rintro e w2 ⟨v, rfl, hown, hx2⟩
      obtain ⟨C, cc, rfl, -⟩ := hown.form
      replace hE := heap_ext hE hx2
      replace hO := heap_ext hO hx2
      have hX2 := hx.trans hx2
      clear e0 e1 e2 ef0 ef1 ef2
      have e0 : w2.cell? ⟨w.heap.size, 0, none⟩ = some (.int .u64 R) := by simp [World.cell?, hE]
      have ef0 : w2.frozen? ⟨w.heap.size, 0, none⟩ = false := by simp [World.frozen?, hE]
      have e1 : w2.cell? ⟨w.heap.size, 1, none⟩ = some (.slice A0 n0 c0) := by simp [World.cell?, hE]
      have ef1 : w2.frozen? ⟨w.heap.size, 1, none⟩ = false := by simp [World.frozen?, hE]
      have e2 : w2.cell? ⟨w.heap.size, 2, none⟩ = some (.slice A1 n1 c1) := by simp [World.cell?, hE]
      have ef2 : w2.frozen? ⟨w.heap.size, 2, none⟩ = false := by simp [World.frozen?, hE]
      go_upto_region 5 with (fail)
      have hE3 : (w2.setCell ⟨w.heap.size, 1, none⟩ (.slice C n0 cc)).heap[w.heap.size]? = some (.cells #[.int .u64 R, .slice C n0 cc, .slice A1 n1 c1] 30 (0, 0)) := heap_setCell_at hE
      have hO3 : (w2.setCell ⟨w.heap.size, 1, none⟩ (.slice C n0 cc)).heap[w.heap.size + 1]? = _ := (Below.heap_setCell _ _ _ _ (by simp)).trans hO
      have hW3 : Ext w (w2.setCell ⟨w.heap.size, 1, none⟩ (.slice C n0 cc)) := hX2.setCell (Nat.le_refl _) _
      have hCb := own_lt hown.own
      have hown3 : (w2.setCell ⟨w.heap.size, 1, none⟩ (.slice C n0 cc)).ownsRow (w.heap.size + 2) 90 2 (.slice C n0 cc) n0 (rowCells l0) :=
        own_low (own_other hown.own (fun a ha => by have := hCb a ha; simp; omega)) (by omega)
      have hCge : ∀ a, C = some a → wr.heap.size ≤ a.block := fun a ha => (hCb a ha).1
      clear e0 e1 e2 ef0 ef1 ef2 hE hO hX2 hown hx2 hCb
      generalize w2.setCell ⟨w.heap.size, 1, none⟩ (.slice C n0 cc) = W3 at *
      have e0 : W3.cell? ⟨w.heap.size, 0, none⟩ = some (.int .u64 R) := by simp [World.cell?, hE3]
      have e1 : W3.cell? ⟨w.heap.size, 1, none⟩ = some (.slice C n0 cc) := by simp [World.cell?, hE3]
      have e2 : W3.cell? ⟨w.heap.size, 2, none⟩ = some (.slice A1 n1 c1) := by simp [World.cell?, hE3]
      generalize wr.heap.size = szr at *
      go_wp2
      go_loopw [1, 25] (fun mo i wq => ∃ (j : Nat) (M' : Option Addr) (m' k' : Nat) (L : List St), j ≤ n0 ∧ i = .int .i64 j ∧ mo = .slice M' m' k' ∧ IntsV w M' m' k' (ms.drop j) ∧ wq.ownsRow (w.heap.size + 2) 90 2 (.slice C n0 cc) n0 (rowCells L) ∧ CutTo l0 L ms j ∧
        wq.heap[w.heap.size]? = some (.cells #[.int .u64 R, .slice C n0 cc, .slice A1 n1 c1] 30 (0, 0)) ∧ wq.heap[w.heap.size + 1]? = some (.cells #[.int .u64 0, .slice none 0 0, .slice none 0 0] 30 (0, 0)) ∧ Ext w wq) (fun _ i _ => n0 - (intOf i).toNat)
      case atStart => exact ⟨0, _, _, _, l0, Nat.zero_le _, rfl, rfl, hM, hown3, CutTo.zero _ _, hE3, hO3, hW3⟩
      case round =>
        clear hown3 hE3 hO3 hW3 e0 e1 e2
        obtain ⟨j, M', m', k', L, hj, rfl, rfl, hMj, hown, hcut, hE, hO, hxq⟩ := hrel
        rcases Nat.lt_or_ge j n0 with hjn | hjn
        · have hs : l0[j]? = some (l0[j]'(by omega)) := List.getElem?_eq_getElem _
          have hmem : l0[j]'(by omega) ∈ l0 := List.getElem_mem _
          have hstep := hcut.step hs
          have hnow := hcut.now hs
          obtain ⟨hsr, hsq⟩ := hr0 _ hmem
          have hsok := h0.ok _ hmem
          generalize (l0[j]'(by omega)) = s at *
          have hLok : ∀ W, Ext w W → ∀ x ∈ L, StOK W x := fun W hW x hx' => (hcut.ok h0.ok hr0 x hx').ext hW
          have hor : OwnR wr (w.heap.size + 2) (.slice C n0 cc) n0 L := ⟨hown, hLok wr hxq⟩
          obtain ⟨gc, cc', hv, hgb, hglt, -, s0, s1, f0, f1, hset⟩ := hor.at hnow
          obtain ⟨rfl, rfl⟩ : C = some ⟨gc, 0, none⟩ ∧ cc = cc' := ⟨(Value.slice.inj hv).1, (Value.slice.inj hv).2.2⟩
          clear hv hor
          have hgge := hCge _ rfl
          simp only at hgge
          have hlt2 : w.heap.size + 1 < wr.heap.size := (Array.getElem?_eq_some_iff.1 hO).1
          have hwa : Ext wr (wr.alloc (.cells #[.slice s.D s.q s.cd, .int .i64 s.k] 90)) := (Below.refl _ wr).alloc (Nat.le_refl _) _
          have hBa : (wr.alloc (.cells #[.slice s.D s.q s.cd, .int .i64 s.k] 90)).heap[wr.heap.size]? = some (.cells #[.slice s.D s.q s.cd, .int .i64 s.k] 90 (0, 0)) := heap_alloc_new wr _
          have hini : (j : Int) < (n0 : Int) := by omega
          go_upto_region 9 with (fail)
          have hEa := heap_ext hE hwa
          have hOa := heap_ext hO hwa
          have hXa := hxq.trans hwa
          have sa0 := hwa.cell s0
          have sa1 := hwa.cell s1
          have fa0 : (wr.alloc (.cells #[.slice s.D s.q s.cd, .int .i64 s.k] 90)).frozen? ⟨gc, j * 2, none⟩ = false := by rw [hwa.frozen hglt]; exact f0
          have fa1 : (wr.alloc (.cells #[.slice s.D s.q s.cd, .int .i64 s.k] 90)).frozen? ⟨gc, j * 2 + 1, none⟩ = false := by rw [hwa.frozen hglt]; exact f1
          have hgla := Nat.lt_of_lt_of_le hglt hwa.size
          have hba := hwa.block gc hglt
          clear hE hO s0 s1 f0 f1 hwa hown
          generalize wr.alloc (.cells #[.slice s.D s.q s.cd, .int .i64 s.k] 90) = Wa at *
          generalize wr.heap.size = g7 at *
          generalize hmd : ms.drop j = md at *
          have hzd : ms.getD j 0 = md.headD 0 := by rw [← hmd]; exact getD_drop0 _ _
          have hmd2 : ms.drop (j + 1) = md.tail := by rw [← hmd, List.tail_drop]
          rw [hzd] at hstep
          cases md with
          | nil =>
            have hm0 : m' = 0 := by have := hMj.len; simpa using this.symm
            subst hm0
            simp only [List.headD_nil] at hstep
            go_upto_region 11 with (fail)
            have hX : ∀ wx, Ext Wa wx → wx.cell? ⟨w.heap.size, 1, none⟩ = some (.slice (some ⟨gc, 0, none⟩) n0 cc) ∧ wx.cell? ⟨g7, 0, none⟩ = some (.slice s.D s.q s.cd) ∧ wx.cell? ⟨g7, 1, none⟩ = some (.int .i64 s.k) ∧ Ext w wx := fun wx hx' =>
              ⟨hx'.cell (by simp [World.cell?, hEa]), hx'.cell (by simp [World.cell?, hBa]), hx'.cell (by simp [World.cell?, hBa]), hXa.trans hx'⟩
            refine' wp_region_sure ⟨((some 38, [], none) :: (some 39, [], none) :: (some 40, [1, 0], none) :: (some 41, [2], none) :: (some 42, [], none) :: (some 43, [], none) :: (some 44, [], none) :: (some 45, [5, 6], none) :: (some 46, [3, 4, 0, 1, 2, 3, 4, 5, 6, 7], none) :: (none, [8, 7, 7, 0, 1, 2, 3, 4, 5, 6, 7], none) :: []), (0 :: 0 :: 3 :: 7 :: 0 :: 0 :: 0 :: 96 :: 255 :: 511 :: []), (true :: true :: true :: true :: true :: true :: true :: true :: []), [], 0⟩ 8 50 ((0, 38) :: (1, 39) :: (2, 40) :: (3, 41) :: (4, 42) :: (5, 43) :: (6, 44) :: (7, 45) :: []) ((0, 38) :: (1, 39) :: (2, 40) :: (3, 41) :: (4, 42) :: (5, 43) :: (6, 44) :: (7, 45) :: []) (.det _ :: .det _ :: .det _ :: .det _ :: .det _ :: .det _ :: .det _ :: .det _ :: []) (by kernel_rfl) (by kernel_rfl) (by kernel_rfl) rfl (by kernel_rfl) (by kernel_rfl) rfl ?hone ?hend
            case hone =>
              intro CS frS VS hCS ha hV
              have qs2 := slot_val (t := 2) ha rfl
              simp only [List.getElem_toArray, List.getElem_cons_succ, List.getElem_cons_zero] at qs2
              have qs5 := slot_val (t := 5) ha rfl
              simp only [List.getElem_toArray, List.getElem_cons_succ, List.getElem_cons_zero] at qs5
              have qs6 := slot_val (t := 6) ha rfl
              simp only [List.getElem_toArray, List.getElem_cons_succ, List.getElem_cons_zero] at qs6
              have qs7 := slot_val (t := 7) ha rfl
              simp only [List.getElem_toArray, List.getElem_cons_succ, List.getElem_cons_zero] at qs7
              have qs8 := slot_val (t := 8) ha rfl
              simp only [List.getElem_toArray, List.getElem_cons_succ, List.getElem_cons_zero] at qs8
              have HCS := Lib.hid hCS
              have HVS := Lib.hid hV
              clear ha hCS hV
              -- 0: slot 38 := Op.move t5
              refine sure_det (js := []) (ts := [5]) (gd := none) (place_at HVS.out (k := 0) rfl) (by rw [HCS.out]; kernel_rfl) ?_ ?_
              · intro wx hx ρ hρ hs hf
                have hρc := hρ.const
                have hρf := hρ.func
                obtain ⟨fx5, -⟩ := hf
                rw [qs5] at fx5
                clear hs
                clear HCS HVS qs2 qs5 qs6 qs7 qs8
                refine run_plain ?_
                refine op_move rfl fx5 ?_
                exact detK.mk
              -- 1: slot 39 := Op.fieldAddr 30 t2 1
              refine sure_det (js := []) (ts := [2]) (gd := none) (place_at HVS.out (k := 1) rfl) (by rw [HCS.out]; kernel_rfl) ?_ ?_
              · intro wx hx ρ hρ hs hf
                have hρc := hρ.const
                have hρf := hρ.func
                obtain ⟨fx2, -⟩ := hf
                rw [qs2] at fx2
                clear hs
                clear HCS HVS qs2 qs5 qs6 qs7 qs8
                refine run_plain ?_
                unfold runs
                go_simp
                exact detK.mk
              -- 2: slot 40 := Op.indexAddr 28 t39 t38
              refine sure_det (js := [(1, 39), (0, 38)]) (ts := []) (gd := none) (place_at HVS.out (k := 2) rfl) (by rw [HCS.out]; kernel_rfl) ?_ ?_
              · intro wx hx ρ hρ hs hf
                have hρc := hρ.const
                have hρf := hρ.func
                obtain ⟨sn1, sn0, -⟩ := hs
                rw [place_at HVS.out (k := 1) rfl] at sn1
                replace sn1 : ρ (.tmp 39) = _ := sn1
                rw [place_at HVS.out (k := 0) rfl] at sn0
                replace sn0 : ρ (.tmp 38) = _ := sn0
                clear hf
                clear HCS HVS qs2 qs5 qs6 qs7 qs8
                refine run_plain ?_
                unfold runs
                go_simp
                exact detK.mk
              -- 3: slot 41 := Op.load 27 t40
              refine sure_det (js := [(2, 40)]) (ts := []) (gd := none) (place_at HVS.out (k := 3) rfl) (by rw [HCS.out]; kernel_rfl) ?_ ?_
              · intro wx hx ρ hρ hs hf
                have hρc := hρ.const
                have hρf := hρ.func
                obtain ⟨sn2, -⟩ := hs
                rw [place_at HVS.out (k := 2) rfl] at sn2
                replace sn2 : ρ (.tmp 40) = _ := sn2
                clear hf
                clear HCS HVS qs2 qs5 qs6 qs7 qs8
                refine run_plain ?_
                obtain ⟨p0, p1, p2, -⟩ := hX wx hx.drawn
                unfold runs
                go_simp
                exact detK.mk
              -- 4: slot 42 := Op.move t6
              refine sure_det (js := []) (ts := [6]) (gd := none) (place_at HVS.out (k := 4) rfl) (by rw [HCS.out]; kernel_rfl) ?_ ?_
              · intro wx hx ρ hρ hs hf
                have hρc := hρ.const
                have hρf := hρ.func
                obtain ⟨fx6, -⟩ := hf
                rw [qs6] at fx6
                clear hs
                clear HCS HVS qs2 qs5 qs6 qs7 qs8
                refine run_plain ?_
                refine op_move rfl fx6 ?_
                exact detK.mk
              -- 5: slot 43 := Op.load 90 t7
              refine sure_det (js := []) (ts := [7]) (gd := none) (place_at HVS.out (k := 5) rfl) (by rw [HCS.out]; kernel_rfl) ?_ ?_
              · intro wx hx ρ hρ hs hf
                have hρc := hρ.const
                have hρf := hρ.func
                obtain ⟨fx7, -⟩ := hf
                rw [qs7] at fx7
                clear hs
                clear HCS HVS qs2 qs5 qs6 qs7 qs8
                refine run_plain ?_
                obtain ⟨p0, p1, p2, -⟩ := hX wx hx.drawn
                unfold runs
                go_simp
                exact detK.mk
              -- 6: slot 44 := Op.move t8
              refine sure_det (js := []) (ts := [8]) (gd := none) (place_at HVS.out (k := 6) rfl) (by rw [HCS.out]; kernel_rfl) ?_ ?_
              · intro wx hx ρ hρ hs hf
                have hρc := hρ.const
                have hρf := hρ.func
                obtain ⟨fx8, -⟩ := hf
                rw [qs8] at fx8
                clear hs
                clear HCS HVS qs2 qs5 qs6 qs7 qs8
                refine run_plain ?_
                refine op_move rfl fx8 ?_
                exact detK.mk
              -- 7: slot 45 := Op.call { call ( 48), args := #[t43, t44], argTypes := #[90, 3] }
              refine sure_det (js := [(5, 43), (6, 44)]) (ts := []) (gd := none) (place_at HVS.out (k := 7) rfl) (by rw [HCS.out]; kernel_rfl) ?_ ?_
              · intro wx hx ρ hρ hs hf
                have hρc := hρ.const
                have hρf := hρ.func
                obtain ⟨sn5, sn6, -⟩ := hs
                rw [place_at HVS.out (k := 5) rfl] at sn5
                replace sn5 : ρ (.tmp 43) = _ := sn5
                rw [place_at HVS.out (k := 6) rfl] at sn6
                replace sn6 : ρ (.tmp 44) = _ := sn6
                clear hf
                clear HCS HVS qs2 qs5 qs6 qs7 qs8
                refine run_plain ?_
                refine op_call rfl hρ Try.call48 (map_two sn5 sn6) ?_
                refine Calls.mono (stcut_any s (0 : Int) _ (hsok.ext (hX _ hx.drawn).2.2.2) hsq hsr) ?_; rintro e w' ⟨rfl, hx5⟩; refine ⟨_, rfl, ?_⟩; exact detK.ext hx5
              exact trivial
            case hend =>
              intro xs wx hx hg
              have gk0 : xs 0 = _ := goods_get hg (i := 0) (j := 0) (d := 38) rfl
              have gk1 : xs 1 = _ := goods_get hg (i := 1) (j := 1) (d := 39) rfl
              have gk2 : xs 2 = _ := goods_get hg (i := 2) (j := 2) (d := 40) rfl
              have gk3 : xs 3 = _ := goods_get hg (i := 3) (j := 3) (d := 41) rfl
              have gk4 : xs 4 = _ := goods_get hg (i := 4) (j := 4) (d := 42) rfl
              have gk5 : xs 5 = _ := goods_get hg (i := 5) (j := 5) (d := 43) rfl
              have gk6 : xs 6 = _ := goods_get hg (i := 6) (j := 6) (d := 44) rfl
              have gk7 : xs 7 = _ := goods_get hg (i := 7) (j := 7) (d := 45) rfl
              clear hg
              simp only [putAll, gk0, gk1, gk2, gk3, gk4, gk5, gk6, gk7]
              clear gk0 gk1 gk2 gk3 gk4 gk5 gk6 gk7
              clear xs
              simp only [Act.put, List.setIfInBounds_toArray, List.set_cons_zero, List.set_cons_succ, List.drop_succ_cons, List.drop_zero]
              have hxx : Ext Wa wx := hx.drawn
              have x0 := hxx.cell sa0
              have x1 := hxx.cell sa1
              have y0 : wx.frozen? ⟨gc, j * 2, none⟩ = false := by rw [hxx.frozen hgla]; exact fa0
              have y1 : wx.frozen? ⟨gc, j * 2 + 1, none⟩ = false := by rw [hxx.frozen hgla]; exact fa1
              have hEx := heap_ext hEa hxx
              have hOx := heap_ext hOa hxx
              have hXx := hXa.trans hxx
              have hbx := (hxx.block gc hgla).trans hba
              clear hX hx hEa hOa hBa hXa sa0 sa1 fa0 fa1
              go_wp2
              have hXf : Ext w ((wx.setCell ⟨gc, j * 2, none⟩ (.slice (s.cut (0 : Int)).D (s.cut (0 : Int)).q (s.cut (0 : Int)).cd)).setCell ⟨gc, j * 2 + 1, none⟩ (.int .i64 (s.cut (0 : Int)).k)) := Ext.trans (show Ext w (wx.setCell ⟨gc, j * 2, none⟩ _) from hXx.setCell (show w.heap.size ≤ gc by omega) _) (Ext.refl _) |>.setCell (show w.heap.size ≤ gc by omega) _
              have hnew := hset (s.cut (0 : Int)) ((wx.setCell ⟨gc, j * 2, none⟩ (.slice (s.cut (0 : Int)).D (s.cut (0 : Int)).q (s.cut (0 : Int)).cd)).setCell ⟨gc, j * 2 + 1, none⟩ (.int .i64 (s.cut (0 : Int)).k)) (fun x hx' => by
                  rcases List.mem_cons.1 hx' with rfl | hx'
                  · exact (hsok.cut hsr _).ext hXf
                  · exact hLok _ hXf x hx') (heap_set_congr (heap_set_congr hbx))
              go_roundw
              case rel => exact ⟨j + 1, _, _, _, L.set j (s.cut (0 : Int)), by omega, by go_num, rfl, by rw [hmd2]; exact hMj, hnew.own, hstep,
                by rw [Below.heap_setCell _ _ _ _ (by simp; omega), Below.heap_setCell _ _ _ _ (by simp; omega)]; exact hEx,
                by rw [Below.heap_setCell _ _ _ _ (by simp; omega), Below.heap_setCell _ _ _ _ (by simp; omega)]; exact hOx, hXf⟩
              case measure => simp [intOf]; omega
          | cons z md =>
            have hm1 : m' = md.length + 1 := by have := hMj.len; simpa using this.symm
            obtain ⟨M2, hsl, hM2⟩ := hMj.tail
            obtain ⟨aM, rfl, hcM⟩ := hMj.at_ 0 z rfl
            simp only [List.headD_cons] at hstep
            have hmp : (0 : Int) < (m' : Int) := by omega
            clear hm1
            have hcM2 : ∀ W, Ext w W → W.cell? aM = some (.int .i64 z) := fun W hW => by
              have := hW.cell hcM
              rwa [show aM.add 0 = aM from rfl] at this
            go_upto_region 10 with (fail)
            refine' wp_region_sure ⟨((some 33, [], none) :: (some 34, [0], none) :: (some 35, [1], none) :: (some 36, [], none) :: (some 37, [3], none) :: (some 8, [2, 0, 1, 2], none) :: (some 1, [4, 5, 0, 1, 2, 3, 4, 5], none) :: []), (0 :: 1 :: 3 :: 0 :: 8 :: 7 :: 63 :: []), (true :: true :: true :: true :: true :: true :: []), [], 0⟩ 6 50 ((0, 33) :: (1, 34) :: (2, 35) :: (3, 36) :: (4, 37) :: (5, 8) :: []) ((0, 33) :: (1, 34) :: (2, 35) :: (3, 36) :: (4, 37) :: (5, 8) :: []) (.det _ :: .det _ :: .det _ :: .det _ :: .det _ :: .det _ :: []) (by kernel_rfl) (by kernel_rfl) (by kernel_rfl) rfl (by kernel_rfl) (by kernel_rfl) rfl ?hone ?hend
            case hone =>
              intro CS frS VS hCS ha hV
              have qs1 := slot_val (t := 1) ha rfl
              simp only [List.getElem_toArray, List.getElem_cons_succ, List.getElem_cons_zero] at qs1
              have HCS := Lib.hid hCS
              have HVS := Lib.hid hV
              clear ha hCS hV
              -- 0: slot 33 := Op.move t1
              refine sure_det (js := []) (ts := [1]) (gd := none) (place_at HVS.out (k := 0) rfl) (by rw [HCS.out]; kernel_rfl) ?_ ?_
              · intro wx hx ρ hρ hs hf
                have hρc := hρ.const
                have hρf := hρ.func
                obtain ⟨fx1, -⟩ := hf
                rw [qs1] at fx1
                clear hs
                clear HCS HVS qs1
                refine run_plain ?_
                refine op_move rfl fx1 ?_
                exact detK.mk
              -- 1: slot 34 := Op.indexAddr 44 t33 ((i64 0))
              refine sure_det (js := [(0, 33)]) (ts := []) (gd := none) (place_at HVS.out (k := 1) rfl) (by rw [HCS.out]; kernel_rfl) ?_ ?_
              · intro wx hx ρ hρ hs hf
                have hρc := hρ.const
                have hρf := hρ.func
                obtain ⟨sn0, -⟩ := hs
                rw [place_at HVS.out (k := 0) rfl] at sn0
                replace sn0 : ρ (.tmp 33) = _ := sn0
                clear hf
                clear HCS HVS qs1
                refine run_plain ?_
                unfold runs
                go_simp
                exact detK.mk
              -- 2: slot 35 := Op.load 3 t34
              refine sure_det (js := [(1, 34)]) (ts := []) (gd := none) (place_at HVS.out (k := 2) rfl) (by rw [HCS.out]; kernel_rfl) ?_ ?_
              · intro wx hx ρ hρ hs hf
                have hρc := hρ.const
                have hρf := hρ.func
                obtain ⟨sn1, -⟩ := hs
                rw [place_at HVS.out (k := 1) rfl] at sn1
                replace sn1 : ρ (.tmp 34) = _ := sn1
                clear hf
                clear HCS HVS qs1
                refine run_plain ?_
                have pM := hcM2 wx (hXa.trans hx.drawn)
                unfold runs
                go_simp
                exact detK.mk
              -- 3: slot 36 := Op.move t1
              refine sure_det (js := []) (ts := [1]) (gd := none) (place_at HVS.out (k := 3) rfl) (by rw [HCS.out]; kernel_rfl) ?_ ?_
              · intro wx hx ρ hρ hs hf
                have hρc := hρ.const
                have hρf := hρ.func
                obtain ⟨fx1, -⟩ := hf
                rw [qs1] at fx1
                clear hs
                clear HCS HVS qs1
                refine run_plain ?_
                refine op_move rfl fx1 ?_
                exact detK.mk
              -- 4: slot 37 := Op.slice 44 t36 (some ((i64 1))) none none
              refine sure_det (js := [(3, 36)]) (ts := []) (gd := none) (place_at HVS.out (k := 4) rfl) (by rw [HCS.out]; kernel_rfl) ?_ ?_
              · intro wx hx ρ hρ hs hf
                have hρc := hρ.const
                have hρf := hρ.func
                obtain ⟨sn3, -⟩ := hs
                rw [place_at HVS.out (k := 3) rfl] at sn3
                replace sn3 : ρ (.tmp 36) = _ := sn3
                clear hf
                clear HCS HVS qs1
                refine run_plain ?_
                unfold runs
                go_simp
                exact detK.mk
              -- 5: slot 8 := Op.assign t35
              refine sure_det (js := [(2, 35)]) (ts := []) (gd := none) (place_at HVS.out (k := 5) rfl) (by rw [HCS.out]; kernel_rfl) ?_ ?_
              · intro wx hx ρ hρ hs hf
                have hρc := hρ.const
                have hρf := hρ.func
                obtain ⟨sn2, -⟩ := hs
                rw [place_at HVS.out (k := 2) rfl] at sn2
                replace sn2 : ρ (.tmp 35) = _ := sn2
                clear hf
                clear HCS HVS qs1
                refine run_plain ?_
                refine op_assign rfl sn2 ?_
                exact detK.mk
              exact trivial
            case hend =>
              intro xs wx hx hg
              have gk0 : xs 0 = _ := goods_get hg (i := 0) (j := 0) (d := 33) rfl
              have gk1 : xs 1 = _ := goods_get hg (i := 1) (j := 1) (d := 34) rfl
              have gk2 : xs 2 = _ := goods_get hg (i := 2) (j := 2) (d := 35) rfl
              have gk3 : xs 3 = _ := goods_get hg (i := 3) (j := 3) (d := 36) rfl
              have gk4 : xs 4 = _ := goods_get hg (i := 4) (j := 4) (d := 37) rfl
              have gk5 : xs 5 = _ := goods_get hg (i := 5) (j := 5) (d := 8) rfl
              clear hg
              simp only [putAll, gk0, gk1, gk2, gk3, gk4, gk5]
              clear gk0 gk1 gk2 gk3 gk4 gk5
              clear xs
              simp only [Act.put, List.setIfInBounds_toArray, List.set_cons_zero, List.set_cons_succ, List.drop_succ_cons, List.drop_zero]
              have hxx0 : Ext Wa wx := hx.drawn
              have hEb := heap_ext hEa hxx0
              have hOb := heap_ext hOa hxx0
              have hXb := hXa.trans hxx0
              have sb0 := hxx0.cell sa0
              have sb1 := hxx0.cell sa1
              have fb0 : wx.frozen? ⟨gc, j * 2, none⟩ = false := by rw [hxx0.frozen hgla]; exact fa0
              have fb1 : wx.frozen? ⟨gc, j * 2 + 1, none⟩ = false := by rw [hxx0.frozen hgla]; exact fa1
              have hglb := Nat.lt_of_lt_of_le hgla hxx0.size
              have hbb := (hxx0.block gc hgla).trans hba
              have hBb := heap_ext hBa hxx0
              clear hEa hOa hXa sa0 sa1 fa0 fa1 hgla hba hBa hxx0 hx
              generalize wx = Wb at *
              go_upto_region 11 with (fail)
              clear hsl
              have hX : ∀ wx, Ext Wb wx → wx.cell? ⟨w.heap.size, 1, none⟩ = some (.slice (some ⟨gc, 0, none⟩) n0 cc) ∧ wx.cell? ⟨g7, 0, none⟩ = some (.slice s.D s.q s.cd) ∧ wx.cell? ⟨g7, 1, none⟩ = some (.int .i64 s.k) ∧ Ext w wx := fun wx hx' =>
                ⟨hx'.cell (by simp [World.cell?, hEb]), hx'.cell (by simp [World.cell?, hBb]), hx'.cell (by simp [World.cell?, hBb]), hXb.trans hx'⟩
              refine' wp_region_sure ⟨((some 38, [], none) :: (some 39, [], none) :: (some 40, [1, 0], none) :: (some 41, [2], none) :: (some 42, [], none) :: (some 43, [], none) :: (some 44, [], none) :: (some 45, [5, 6], none) :: (some 46, [3, 4, 0, 1, 2, 3, 4, 5, 6, 7], none) :: (none, [8, 7, 7, 0, 1, 2, 3, 4, 5, 6, 7], none) :: []), (0 :: 0 :: 3 :: 7 :: 0 :: 0 :: 0 :: 96 :: 255 :: 511 :: []), (true :: true :: true :: true :: true :: true :: true :: true :: []), [], 0⟩ 8 50 ((0, 38) :: (1, 39) :: (2, 40) :: (3, 41) :: (4, 42) :: (5, 43) :: (6, 44) :: (7, 45) :: []) ((0, 38) :: (1, 39) :: (2, 40) :: (3, 41) :: (4, 42) :: (5, 43) :: (6, 44) :: (7, 45) :: []) (.det _ :: .det _ :: .det _ :: .det _ :: .det _ :: .det _ :: .det _ :: .det _ :: []) (by kernel_rfl) (by kernel_rfl) (by kernel_rfl) rfl (by kernel_rfl) (by kernel_rfl) rfl ?hone ?hend
              case hone =>
                intro CS frS VS hCS ha hV
                have qs2 := slot_val (t := 2) ha rfl
                simp only [List.getElem_toArray, List.getElem_cons_succ, List.getElem_cons_zero] at qs2
                have qs5 := slot_val (t := 5) ha rfl
                simp only [List.getElem_toArray, List.getElem_cons_succ, List.getElem_cons_zero] at qs5
                have qs6 := slot_val (t := 6) ha rfl
                simp only [List.getElem_toArray, List.getElem_cons_succ, List.getElem_cons_zero] at qs6
                have qs7 := slot_val (t := 7) ha rfl
                simp only [List.getElem_toArray, List.getElem_cons_succ, List.getElem_cons_zero] at qs7
                have qs8 := slot_val (t := 8) ha rfl
                simp only [List.getElem_toArray, List.getElem_cons_succ, List.getElem_cons_zero] at qs8
                have HCS := Lib.hid hCS
                have HVS := Lib.hid hV
                clear ha hCS hV
                -- 0: slot 38 := Op.move t5
                refine sure_det (js := []) (ts := [5]) (gd := none) (place_at HVS.out (k := 0) rfl) (by rw [HCS.out]; kernel_rfl) ?_ ?_
                · intro wx hx ρ hρ hs hf
                  have hρc := hρ.const
                  have hρf := hρ.func
                  obtain ⟨fx5, -⟩ := hf
                  rw [qs5] at fx5
                  clear hs
                  clear HCS HVS qs2 qs5 qs6 qs7 qs8
                  refine run_plain ?_
                  refine op_move rfl fx5 ?_
                  exact detK.mk
                -- 1: slot 39 := Op.fieldAddr 30 t2 1
                refine sure_det (js := []) (ts := [2]) (gd := none) (place_at HVS.out (k := 1) rfl) (by rw [HCS.out]; kernel_rfl) ?_ ?_
                · intro wx hx ρ hρ hs hf
                  have hρc := hρ.const
                  have hρf := hρ.func
                  obtain ⟨fx2, -⟩ := hf
                  rw [qs2] at fx2
                  clear hs
                  clear HCS HVS qs2 qs5 qs6 qs7 qs8
                  refine run_plain ?_
                  unfold runs
                  go_simp
                  exact detK.mk
                -- 2: slot 40 := Op.indexAddr 28 t39 t38
                refine sure_det (js := [(1, 39), (0, 38)]) (ts := []) (gd := none) (place_at HVS.out (k := 2) rfl) (by rw [HCS.out]; kernel_rfl) ?_ ?_
                · intro wx hx ρ hρ hs hf
                  have hρc := hρ.const
                  have hρf := hρ.func
                  obtain ⟨sn1, sn0, -⟩ := hs
                  rw [place_at HVS.out (k := 1) rfl] at sn1
                  replace sn1 : ρ (.tmp 39) = _ := sn1
                  rw [place_at HVS.out (k := 0) rfl] at sn0
                  replace sn0 : ρ (.tmp 38) = _ := sn0
                  clear hf
                  clear HCS HVS qs2 qs5 qs6 qs7 qs8
                  refine run_plain ?_
                  unfold runs
                  go_simp
                  exact detK.mk
                -- 3: slot 41 := Op.load 27 t40
                refine sure_det (js := [(2, 40)]) (ts := []) (gd := none) (place_at HVS.out (k := 3) rfl) (by rw [HCS.out]; kernel_rfl) ?_ ?_
                · intro wx hx ρ hρ hs hf
                  have hρc := hρ.const
                  have hρf := hρ.func
                  obtain ⟨sn2, -⟩ := hs
                  rw [place_at HVS.out (k := 2) rfl] at sn2
                  replace sn2 : ρ (.tmp 40) = _ := sn2
                  clear hf
                  clear HCS HVS qs2 qs5 qs6 qs7 qs8
                  refine run_plain ?_
                  obtain ⟨p0, p1, p2, -⟩ := hX wx hx.drawn
                  unfold runs
                  go_simp
                  exact detK.mk
                -- 4: slot 42 := Op.move t6
                refine sure_det (js := []) (ts := [6]) (gd := none) (place_at HVS.out (k := 4) rfl) (by rw [HCS.out]; kernel_rfl) ?_ ?_
                · intro wx hx ρ hρ hs hf
                  have hρc := hρ.const
                  have hρf := hρ.func
                  obtain ⟨fx6, -⟩ := hf
                  rw [qs6] at fx6
                  clear hs
                  clear HCS HVS qs2 qs5 qs6 qs7 qs8
                  refine run_plain ?_
                  refine op_move rfl fx6 ?_
                  exact detK.mk
                -- 5: slot 43 := Op.load 90 t7
                refine sure_det (js := []) (ts := [7]) (gd := none) (place_at HVS.out (k := 5) rfl) (by rw [HCS.out]; kernel_rfl) ?_ ?_
                · intro wx hx ρ hρ hs hf
                  have hρc := hρ.const
                  have hρf := hρ.func
                  obtain ⟨fx7, -⟩ := hf
                  rw [qs7] at fx7
                  clear hs
                  clear HCS HVS qs2 qs5 qs6 qs7 qs8
                  refine run_plain ?_
                  obtain ⟨p0, p1, p2, -⟩ := hX wx hx.drawn
                  unfold runs
                  go_simp
                  exact detK.mk
                -- 6: slot 44 := Op.move t8
                refine sure_det (js := []) (ts := [8]) (gd := none) (place_at HVS.out (k := 6) rfl) (by rw [HCS.out]; kernel_rfl) ?_ ?_
                · intro wx hx ρ hρ hs hf
                  have hρc := hρ.const
                  have hρf := hρ.func
                  obtain ⟨fx8, -⟩ := hf
                  rw [qs8] at fx8
                  clear hs
                  clear HCS HVS qs2 qs5 qs6 qs7 qs8
                  refine run_plain ?_
                  refine op_move rfl fx8 ?_
                  exact detK.mk
                -- 7: slot 45 := Op.call { call ( 48), args := #[t43, t44], argTypes := #[90, 3] }
                refine sure_det (js := [(5, 43), (6, 44)]) (ts := []) (gd := none) (place_at HVS.out (k := 7) rfl) (by rw [HCS.out]; kernel_rfl) ?_ ?_
                · intro wx hx ρ hρ hs hf
                  have hρc := hρ.const
                  have hρf := hρ.func
                  obtain ⟨sn5, sn6, -⟩ := hs
                  rw [place_at HVS.out (k := 5) rfl] at sn5
                  replace sn5 : ρ (.tmp 43) = _ := sn5
                  rw [place_at HVS.out (k := 6) rfl] at sn6
                  replace sn6 : ρ (.tmp 44) = _ := sn6
                  clear hf
                  clear HCS HVS qs2 qs5 qs6 qs7 qs8
                  refine run_plain ?_
                  refine op_call rfl hρ Try.call48 (map_two sn5 sn6) ?_
                  refine Calls.mono (stcut_any s z _ (hsok.ext (hX _ hx.drawn).2.2.2) hsq hsr) ?_; rintro e w' ⟨rfl, hx5⟩; refine ⟨_, rfl, ?_⟩; exact detK.ext hx5
                exact trivial
              case hend =>
                intro xs wx hx hg
                have gk0 : xs 0 = _ := goods_get hg (i := 0) (j := 0) (d := 38) rfl
                have gk1 : xs 1 = _ := goods_get hg (i := 1) (j := 1) (d := 39) rfl
                have gk2 : xs 2 = _ := goods_get hg (i := 2) (j := 2) (d := 40) rfl
                have gk3 : xs 3 = _ := goods_get hg (i := 3) (j := 3) (d := 41) rfl
                have gk4 : xs 4 = _ := goods_get hg (i := 4) (j := 4) (d := 42) rfl
                have gk5 : xs 5 = _ := goods_get hg (i := 5) (j := 5) (d := 43) rfl
                have gk6 : xs 6 = _ := goods_get hg (i := 6) (j := 6) (d := 44) rfl
                have gk7 : xs 7 = _ := goods_get hg (i := 7) (j := 7) (d := 45) rfl
                clear hg
                simp only [putAll, gk0, gk1, gk2, gk3, gk4, gk5, gk6, gk7]
                clear gk0 gk1 gk2 gk3 gk4 gk5 gk6 gk7
                clear xs
                simp only [Act.put, List.setIfInBounds_toArray, List.set_cons_zero, List.set_cons_succ, List.drop_succ_cons, List.drop_zero]
                have hxx : Ext Wb wx := hx.drawn
                have x0 := hxx.cell sb0
                have x1 := hxx.cell sb1
                have y0 : wx.frozen? ⟨gc, j * 2, none⟩ = false := by rw [hxx.frozen hglb]; exact fb0
                have y1 : wx.frozen? ⟨gc, j * 2 + 1, none⟩ = false := by rw [hxx.frozen hglb]; exact fb1
                have hEx := heap_ext hEb hxx
                have hOx := heap_ext hOb hxx
                have hXx := hXb.trans hxx
                have hbx := (hxx.block gc hglb).trans hbb
                clear hX hx hEb hOb hBb hXb sb0 sb1 fb0 fb1
                go_wp2
                have hXf : Ext w ((wx.setCell ⟨gc, j * 2, none⟩ (.slice (s.cut z).D (s.cut z).q (s.cut z).cd)).setCell ⟨gc, j * 2 + 1, none⟩ (.int .i64 (s.cut z).k)) := Ext.trans (show Ext w (wx.setCell ⟨gc, j * 2, none⟩ _) from hXx.setCell (show w.heap.size ≤ gc by omega) _) (Ext.refl _) |>.setCell (show w.heap.size ≤ gc by omega) _
                have hnew := hset (s.cut z) ((wx.setCell ⟨gc, j * 2, none⟩ (.slice (s.cut z).D (s.cut z).q (s.cut z).cd)).setCell ⟨gc, j * 2 + 1, none⟩ (.int .i64 (s.cut z).k)) (fun x hx' => by
                    rcases List.mem_cons.1 hx' with rfl | hx'
                    · exact (hsok.cut hsr _).ext hXf
                    · exact hLok _ hXf x hx') (heap_set_congr (heap_set_congr hbx))
                go_roundw
                case rel => exact ⟨j + 1, _, _, _, L.set j (s.cut z), by omega, by go_num, rfl, by rw [hmd2]; exact hM2, hnew.own, hstep,
                  by rw [Below.heap_setCell _ _ _ _ (by simp; omega), Below.heap_setCell _ _ _ _ (by simp; omega)]; exact hEx,
                  by rw [Below.heap_setCell _ _ _ _ (by simp; omega), Below.heap_setCell _ _ _ _ (by simp; omega)]; exact hOx, hXf⟩
                case measure => simp [intOf]; omega
        · obtain rfl : j = n0 := by omega
          go_wp2
          go_roundw
          case rel => exact ⟨hxq, hO, .inr (.inl ⟨_, _, L, _, _, _, by go_num, hE, rfl, hMj, hown, hcut⟩)⟩
          case measure => simp [intOf]
    · have hlt : w.heap.size + 1 < wr.heap.size := (Array.getElem?_eq_some_iff.1 hO).1
      have e0 : wr.cell? ⟨w.heap.size, 0, none⟩ = some (.int .u64 R) := by simp [World.cell?, hE]
      have ef0 : wr.frozen? ⟨w.heap.size, 0, none⟩ = false := by simp [World.frozen?, hE]
      have e1 : wr.cell? ⟨w.heap.size, 1, none⟩ = some (.slice B0 n0 b0) := by simp [World.cell?, hE]
      have ef1 : wr.frozen? ⟨w.heap.size, 1, none⟩ = false := by simp [World.frozen?, hE]
      have e2 : wr.cell? ⟨w.heap.size, 2, none⟩ = some (.slice A1 n1 c1) := by simp [World.cell?, hE]
      have ef2 : wr.frozen? ⟨w.heap.size, 2, none⟩ = false := by simp [World.frozen?, hE]
      go_wp2_with fail
      refine (clone_row A1 n1 c1 l1 _ (h1.ext hx) (by omega)).mono ?_
      rintro e w2 ⟨v, rfl, hown, hx2⟩
      obtain ⟨C, cc, rfl, -⟩ := hown.form
      replace hE := heap_ext hE hx2
      replace hO := heap_ext hO hx2
      have hX2 := hx.trans hx2
      clear e0 e1 e2 ef0 ef1 ef2
      have e0 : w2.cell? ⟨w.heap.size, 0, none⟩ = some (.int .u64 R) := by simp [World.cell?, hE]
      have ef0 : w2.frozen? ⟨w.heap.size, 0, none⟩ = false := by simp [World.frozen?, hE]
      have e1 : w2.cell? ⟨w.heap.size, 1, none⟩ = some (.slice B0 n0 b0) := by simp [World.cell?, hE]
      have ef1 : w2.frozen? ⟨w.heap.size, 1, none⟩ = false := by simp [World.frozen?, hE]
      have e2 : w2.cell? ⟨w.heap.size, 2, none⟩ = some (.slice A1 n1 c1) := by simp [World.cell?, hE]
      have ef2 : w2.frozen? ⟨w.heap.size, 2, none⟩ = false := by simp [World.frozen?, hE]
      go_upto_region 5 with (fail)
      have hE3 : (w2.setCell ⟨w.heap.size, 2, none⟩ (.slice C n1 cc)).heap[w.heap.size]? = some (.cells #[.int .u64 R, .slice B0 n0 b0, .slice C n1 cc] 30 (0, 0)) := heap_setCell_at hE
      have hO3 : (w2.setCell ⟨w.heap.size, 2, none⟩ (.slice C n1 cc)).heap[w.heap.size + 1]? = _ := (Below.heap_setCell _ _ _ _ (by simp)).trans hO
      have hW3 : Ext w (w2.setCell ⟨w.heap.size, 2, none⟩ (.slice C n1 cc)) := hX2.setCell (Nat.le_refl _) _
      have hCb := own_lt hown.own
      have hown3 : (w2.setCell ⟨w.heap.size, 2, none⟩ (.slice C n1 cc)).ownsRow (w.heap.size + 2) 90 2 (.slice C n1 cc) n1 (rowCells l1) :=
        own_low (own_other hown.own (fun a ha => by have := hCb a ha; simp; omega)) (by omega)
      have hR3 : (w2.setCell ⟨w.heap.size, 2, none⟩ (.slice C n1 cc)).ownsRow (w.heap.size + 2) 90 2 (.slice B0 n0 b0) n0 (rowCells L0) := own_other (ownsRow_ext hR0 hx2) (fun a ha => by have := (own_lt hR0 a ha).1; simp; omega)
      have hlow : ∀ a, B0 = some a → C ≠ some a → True := fun _ _ _ => trivial
      have hBlt : ∀ a, B0 = some a → a.block < wr.heap.size := fun a ha => (own_lt hR0 a ha).2
      have hCge : ∀ a, C = some a → wr.heap.size ≤ a.block := fun a ha => (hCb a ha).1
      clear e0 e1 e2 ef0 ef1 ef2 hE hO hX2 hown hx2 hCb
      generalize w2.setCell ⟨w.heap.size, 2, none⟩ (.slice C n1 cc) = W3 at *
      have e0 : W3.cell? ⟨w.heap.size, 0, none⟩ = some (.int .u64 R) := by simp [World.cell?, hE3]
      have e1 : W3.cell? ⟨w.heap.size, 1, none⟩ = some (.slice B0 n0 b0) := by simp [World.cell?, hE3]
      have e2 : W3.cell? ⟨w.heap.size, 2, none⟩ = some (.slice C n1 cc) := by simp [World.cell?, hE3]
      generalize wr.heap.size = szr at *
      go_wp2
      go_loopw [1, 25] (fun mo i wq => ∃ (j : Nat) (M' : Option Addr) (m' k' : Nat) (L : List St), j ≤ n1 ∧ i = .int .i64 j ∧ mo = .slice M' m' k' ∧ IntsV w M' m' k' ((ms.drop n0).drop j) ∧ wq.ownsRow (w.heap.size + 2) 90 2 (.slice C n1 cc) n1 (rowCells L) ∧ CutTo l1 L (ms.drop n0) j ∧
        wq.heap[w.heap.size]? = some (.cells #[.int .u64 R, .slice B0 n0 b0, .slice C n1 cc] 30 (0, 0)) ∧ wq.heap[w.heap.size + 1]? = some (.cells #[.int .u64 0, .slice none 0 0, .slice none 0 0] 30 (0, 0)) ∧ Ext w wq ∧ wq.ownsRow (w.heap.size + 2) 90 2 (.slice B0 n0 b0) n0 (rowCells L0)) (fun _ i _ => n1 - (intOf i).toNat)
      case atStart => exact ⟨0, _, _, _, l1, Nat.zero_le _, rfl, rfl, hM1, hown3, CutTo.zero _ _, hE3, hO3, hW3, hR3⟩
      case round =>
        clear hown3 hE3 hO3 hW3 e0 e1 e2
        obtain ⟨j, M', m', k', L, hj, rfl, rfl, hMj, hown, hcut, hE, hO, hxq, hRq⟩ := hrel
        rcases Nat.lt_or_ge j n1 with hjn | hjn
        · have hs : l1[j]? = some (l1[j]'(by omega)) := List.getElem?_eq_getElem _
          have hmem : l1[j]'(by omega) ∈ l1 := List.getElem_mem _
          have hstep := hcut.step hs
          have hnow := hcut.now hs
          obtain ⟨hsr, hsq⟩ := hr1 _ hmem
          have hsok := h1.ok _ hmem
          generalize (l1[j]'(by omega)) = s at *
          have hLok : ∀ W, Ext w W → ∀ x ∈ L, StOK W x := fun W hW x hx' => (hcut.ok h1.ok hr1 x hx').ext hW
          have hor : OwnR wr (w.heap.size + 2) (.slice C n1 cc) n1 L := ⟨hown, hLok wr hxq⟩
          obtain ⟨gc, cc', hv, hgb, hglt, -, s0, s1, f0, f1, hset⟩ := hor.at hnow
          obtain ⟨rfl, rfl⟩ : C = some ⟨gc, 0, none⟩ ∧ cc = cc' := ⟨(Value.slice.inj hv).1, (Value.slice.inj hv).2.2⟩
          clear hv hor
          have hgge := hCge _ rfl
          simp only at hgge
          have hlt2 : w.heap.size + 1 < wr.heap.size := (Array.getElem?_eq_some_iff.1 hO).1
          have hwa : Ext wr (wr.alloc (.cells #[.slice s.D s.q s.cd, .int .i64 s.k] 90)) := (Below.refl _ wr).alloc (Nat.le_refl _) _
          have hBa : (wr.alloc (.cells #[.slice s.D s.q s.cd, .int .i64 s.k] 90)).heap[wr.heap.size]? = some (.cells #[.slice s.D s.q s.cd, .int .i64 s.k] 90 (0, 0)) := heap_alloc_new wr _
          have hini : (j : Int) < (n1 : Int) := by omega
          go_upto_region 9 with (fail)
          have hEa := heap_ext hE hwa
          have hOa := heap_ext hO hwa
          have hXa := hxq.trans hwa
          have sa0 := hwa.cell s0
          have sa1 := hwa.cell s1
          have fa0 : (wr.alloc (.cells #[.slice s.D s.q s.cd, .int .i64 s.k] 90)).frozen? ⟨gc, j * 2, none⟩ = false := by rw [hwa.frozen hglt]; exact f0
          have fa1 : (wr.alloc (.cells #[.slice s.D s.q s.cd, .int .i64 s.k] 90)).frozen? ⟨gc, j * 2 + 1, none⟩ = false := by rw [hwa.frozen hglt]; exact f1
          have hgla := Nat.lt_of_lt_of_le hglt hwa.size
          have hba := hwa.block gc hglt
          have hRa := ownsRow_ext hRq hwa
          clear hE hO s0 s1 f0 f1 hwa hown
          generalize wr.alloc (.cells #[.slice s.D s.q s.cd, .int .i64 s.k] 90) = Wa at *
          generalize wr.heap.size = g7 at *
          generalize hmd : (ms.drop n0).drop j = md at *
          have hzd : (ms.drop n0).getD j 0 = md.headD 0 := by rw [← hmd]; exact getD_drop0 _ _
          have hmd2 : (ms.drop n0).drop (j + 1) = md.tail := by rw [← hmd, List.tail_drop]
          rw [hzd] at hstep
          cases md with
          | nil =>
            have hm0 : m' = 0 := by have := hMj.len; simpa using this.symm
            subst hm0
            simp only [List.headD_nil] at hstep
            go_upto_region 11 with (fail)
            have hX : ∀ wx, Ext Wa wx → wx.cell? ⟨w.heap.size, 2, none⟩ = some (.slice (some ⟨gc, 0, none⟩) n1 cc) ∧ wx.cell? ⟨g7, 0, none⟩ = some (.slice s.D s.q s.cd) ∧ wx.cell? ⟨g7, 1, none⟩ = some (.int .i64 s.k) ∧ Ext w wx := fun wx hx' =>
              ⟨hx'.cell (by simp [World.cell?, hEa]), hx'.cell (by simp [World.cell?, hBa]), hx'.cell (by simp [World.cell?, hBa]), hXa.trans hx'⟩
            refine' wp_region_sure ⟨((some 38, [], none) :: (some 39, [], none) :: (some 40, [1, 0], none) :: (some 41, [2], none) :: (some 42, [], none) :: (some 43, [], none) :: (some 44, [], none) :: (some 45, [5, 6], none) :: (some 46, [3, 4, 0, 1, 2, 3, 4, 5, 6, 7], none) :: (none, [8, 7, 7, 0, 1, 2, 3, 4, 5, 6, 7], none) :: []), (0 :: 0 :: 3 :: 7 :: 0 :: 0 :: 0 :: 96 :: 255 :: 511 :: []), (true :: true :: true :: true :: true :: true :: true :: true :: []), [], 0⟩ 8 50 ((0, 38) :: (1, 39) :: (2, 40) :: (3, 41) :: (4, 42) :: (5, 43) :: (6, 44) :: (7, 45) :: []) ((0, 38) :: (1, 39) :: (2, 40) :: (3, 41) :: (4, 42) :: (5, 43) :: (6, 44) :: (7, 45) :: []) (.det _ :: .det _ :: .det _ :: .det _ :: .det _ :: .det _ :: .det _ :: .det _ :: []) (by kernel_rfl) (by kernel_rfl) (by kernel_rfl) rfl (by kernel_rfl) (by kernel_rfl) rfl ?hone ?hend
            case hone =>
              intro CS frS VS hCS ha hV
              have qs2 := slot_val (t := 2) ha rfl
              simp only [List.getElem_toArray, List.getElem_cons_succ, List.getElem_cons_zero] at qs2
              have qs5 := slot_val (t := 5) ha rfl
              simp only [List.getElem_toArray, List.getElem_cons_succ, List.getElem_cons_zero] at qs5
              have qs6 := slot_val (t := 6) ha rfl
              simp only [List.getElem_toArray, List.getElem_cons_succ, List.getElem_cons_zero] at qs6
              have qs7 := slot_val (t := 7) ha rfl
              simp only [List.getElem_toArray, List.getElem_cons_succ, List.getElem_cons_zero] at qs7
              have qs8 := slot_val (t := 8) ha rfl
              simp only [List.getElem_toArray, List.getElem_cons_succ, List.getElem_cons_zero] at qs8
              have HCS := Lib.hid hCS
              have HVS := Lib.hid hV
              clear ha hCS hV
              -- 0: slot 38 := Op.move t5
              refine sure_det (js := []) (ts := [5]) (gd := none) (place_at HVS.out (k := 0) rfl) (by rw [HCS.out]; kernel_rfl) ?_ ?_
              · intro wx hx ρ hρ hs hf
                have hρc := hρ.const
                have hρf := hρ.func
                obtain ⟨fx5, -⟩ := hf
                rw [qs5] at fx5
                clear hs
                clear HCS HVS qs2 qs5 qs6 qs7 qs8
                refine run_plain ?_
                refine op_move rfl fx5 ?_
                exact detK.mk
              -- 1: slot 39 := Op.fieldAddr 30 t2 1
              refine sure_det (js := []) (ts := [2]) (gd := none) (place_at HVS.out (k := 1) rfl) (by rw [HCS.out]; kernel_rfl) ?_ ?_
              · intro wx hx ρ hρ hs hf
                have hρc := hρ.const
                have hρf := hρ.func
                obtain ⟨fx2, -⟩ := hf
                rw [qs2] at fx2
                clear hs
                clear HCS HVS qs2 qs5 qs6 qs7 qs8
                refine run_plain ?_
                unfold runs
                go_simp
                exact detK.mk
              -- 2: slot 40 := Op.indexAddr 28 t39 t38
              refine sure_det (js := [(1, 39), (0, 38)]) (ts := []) (gd := none) (place_at HVS.out (k := 2) rfl) (by rw [HCS.out]; kernel_rfl) ?_ ?_
              · intro wx hx ρ hρ hs hf
                have hρc := hρ.const
                have hρf := hρ.func
                obtain ⟨sn1, sn0, -⟩ := hs
                rw [place_at HVS.out (k := 1) rfl] at sn1
                replace sn1 : ρ (.tmp 39) = _ := sn1
                rw [place_at HVS.out (k := 0) rfl] at sn0
                replace sn0 : ρ (.tmp 38) = _ := sn0
                clear hf
                clear HCS HVS qs2 qs5 qs6 qs7 qs8
                refine run_plain ?_
                unfold runs
                go_simp
                exact detK.mk
              -- 3: slot 41 := Op.load 27 t40
              refine sure_det (js := [(2, 40)]) (ts := []) (gd := none) (place_at HVS.out (k := 3) rfl) (by rw [HCS.out]; kernel_rfl) ?_ ?_
              · intro wx hx ρ hρ hs hf
                have hρc := hρ.const
                have hρf := hρ.func
                obtain ⟨sn2, -⟩ := hs
                rw [place_at HVS.out (k := 2) rfl] at sn2
                replace sn2 : ρ (.tmp 40) = _ := sn2
                clear hf
                clear HCS HVS qs2 qs5 qs6 qs7 qs8
                refine run_plain ?_
                obtain ⟨p0, p1, p2, -⟩ := hX wx hx.drawn
                unfold runs
                go_simp
                exact detK.mk
              -- 4: slot 42 := Op.move t6
              refine sure_det (js := []) (ts := [6]) (gd := none) (place_at HVS.out (k := 4) rfl) (by rw [HCS.out]; kernel_rfl) ?_ ?_
              · intro wx hx ρ hρ hs hf
                have hρc := hρ.const
                have hρf := hρ.func
                obtain ⟨fx6, -⟩ := hf
                rw [qs6] at fx6
                clear hs
                clear HCS HVS qs2 qs5 qs6 qs7 qs8
                refine run_plain ?_
                refine op_move rfl fx6 ?_
                exact detK.mk
              -- 5: slot 43 := Op.load 90 t7
              refine sure_det (js := []) (ts := [7]) (gd := none) (place_at HVS.out (k := 5) rfl) (by rw [HCS.out]; kernel_rfl) ?_ ?_
              · intro wx hx ρ hρ hs hf
                have hρc := hρ.const
                have hρf := hρ.func
                obtain ⟨fx7, -⟩ := hf
                rw [qs7] at fx7
                clear hs
                clear HCS HVS qs2 qs5 qs6 qs7 qs8
                refine run_plain ?_
                obtain ⟨p0, p1, p2, -⟩ := hX wx hx.drawn
                unfold runs
                go_simp
                exact detK.mk
              -- 6: slot 44 := Op.move t8
              refine sure_det (js := []) (ts := [8]) (gd := none) (place_at HVS.out (k := 6) rfl) (by rw [HCS.out]; kernel_rfl) ?_ ?_
              · intro wx hx ρ hρ hs hf
                have hρc := hρ.const
                have hρf := hρ.func
                obtain ⟨fx8, -⟩ := hf
                rw [qs8] at fx8
                clear hs
                clear HCS HVS qs2 qs5 qs6 qs7 qs8
                refine run_plain ?_
                refine op_move rfl fx8 ?_
                exact detK.mk
              -- 7: slot 45 := Op.call { call ( 48), args := #[t43, t44], argTypes := #[90, 3] }
              refine sure_det (js := [(5, 43), (6, 44)]) (ts := []) (gd := none) (place_at HVS.out (k := 7) rfl) (by rw [HCS.out]; kernel_rfl) ?_ ?_
              · intro wx hx ρ hρ hs hf
                have hρc := hρ.const
                have hρf := hρ.func
                obtain ⟨sn5, sn6, -⟩ := hs
                rw [place_at HVS.out (k := 5) rfl] at sn5
                replace sn5 : ρ (.tmp 43) = _ := sn5
                rw [place_at HVS.out (k := 6) rfl] at sn6
                replace sn6 : ρ (.tmp 44) = _ := sn6
                clear hf
                clear HCS HVS qs2 qs5 qs6 qs7 qs8
                refine run_plain ?_
                refine op_call rfl hρ Try.call48 (map_two sn5 sn6) ?_
                refine Calls.mono (stcut_any s (0 : Int) _ (hsok.ext (hX _ hx.drawn).2.2.2) hsq hsr) ?_; rintro e w' ⟨rfl, hx5⟩; refine ⟨_, rfl, ?_⟩; exact detK.ext hx5
              exact trivial
            case hend =>
              intro xs wx hx hg
              have gk0 : xs 0 = _ := goods_get hg (i := 0) (j := 0) (d := 38) rfl
              have gk1 : xs 1 = _ := goods_get hg (i := 1) (j := 1) (d := 39) rfl
              have gk2 : xs 2 = _ := goods_get hg (i := 2) (j := 2) (d := 40) rfl
              have gk3 : xs 3 = _ := goods_get hg (i := 3) (j := 3) (d := 41) rfl
              have gk4 : xs 4 = _ := goods_get hg (i := 4) (j := 4) (d := 42) rfl
              have gk5 : xs 5 = _ := goods_get hg (i := 5) (j := 5) (d := 43) rfl
              have gk6 : xs 6 = _ := goods_get hg (i := 6) (j := 6) (d := 44) rfl
              have gk7 : xs 7 = _ := goods_get hg (i := 7) (j := 7) (d := 45) rfl
              clear hg
              simp only [putAll, gk0, gk1, gk2, gk3, gk4, gk5, gk6, gk7]
              clear gk0 gk1 gk2 gk3 gk4 gk5 gk6 gk7
              clear xs
              simp only [Act.put, List.setIfInBounds_toArray, List.set_cons_zero, List.set_cons_succ, List.drop_succ_cons, List.drop_zero]
              have hxx : Ext Wa wx := hx.drawn
              have x0 := hxx.cell sa0
              have x1 := hxx.cell sa1
              have y0 : wx.frozen? ⟨gc, j * 2, none⟩ = false := by rw [hxx.frozen hgla]; exact fa0
              have y1 : wx.frozen? ⟨gc, j * 2 + 1, none⟩ = false := by rw [hxx.frozen hgla]; exact fa1
              have hEx := heap_ext hEa hxx
              have hOx := heap_ext hOa hxx
              have hXx := hXa.trans hxx
              have hbx := (hxx.block gc hgla).trans hba
              have hRx := ownsRow_ext hRa hxx
              clear hX hx hEa hOa hBa hXa sa0 sa1 fa0 fa1
              go_wp2
              have hXf : Ext w ((wx.setCell ⟨gc, j * 2, none⟩ (.slice (s.cut (0 : Int)).D (s.cut (0 : Int)).q (s.cut (0 : Int)).cd)).setCell ⟨gc, j * 2 + 1, none⟩ (.int .i64 (s.cut (0 : Int)).k)) := Ext.trans (show Ext w (wx.setCell ⟨gc, j * 2, none⟩ _) from hXx.setCell (show w.heap.size ≤ gc by omega) _) (Ext.refl _) |>.setCell (show w.heap.size ≤ gc by omega) _
              have hnew := hset (s.cut (0 : Int)) ((wx.setCell ⟨gc, j * 2, none⟩ (.slice (s.cut (0 : Int)).D (s.cut (0 : Int)).q (s.cut (0 : Int)).cd)).setCell ⟨gc, j * 2 + 1, none⟩ (.int .i64 (s.cut (0 : Int)).k)) (fun x hx' => by
                  rcases List.mem_cons.1 hx' with rfl | hx'
                  · exact (hsok.cut hsr _).ext hXf
                  · exact hLok _ hXf x hx') (heap_set_congr (heap_set_congr hbx))
              go_roundw
              case rel => exact ⟨j + 1, _, _, _, L.set j (s.cut (0 : Int)), by omega, by go_num, rfl, by rw [hmd2]; exact hMj, hnew.own, hstep,
                by rw [Below.heap_setCell _ _ _ _ (by simp; omega), Below.heap_setCell _ _ _ _ (by simp; omega)]; exact hEx,
                by rw [Below.heap_setCell _ _ _ _ (by simp; omega), Below.heap_setCell _ _ _ _ (by simp; omega)]; exact hOx, hXf, own_other (own_other hRx (fun a ha => by have := hBlt a ha; simp; omega)) (fun a ha => by have := hBlt a ha; simp; omega)⟩
              case measure => simp [intOf]; omega
          | cons z md =>
            have hm1 : m' = md.length + 1 := by have := hMj.len; simpa using this.symm
            obtain ⟨M2, hsl, hM2⟩ := hMj.tail
            obtain ⟨aM, rfl, hcM⟩ := hMj.at_ 0 z rfl
            simp only [List.headD_cons] at hstep
            have hmp : (0 : Int) < (m' : Int) := by omega
            clear hm1
            have hcM2 : ∀ W, Ext w W → W.cell? aM = some (.int .i64 z) := fun W hW => by
              have := hW.cell hcM
              rwa [show aM.add 0 = aM from rfl] at this
            go_upto_region 10 with (fail)
            refine' wp_region_sure ⟨((some 33, [], none) :: (some 34, [0], none) :: (some 35, [1], none) :: (some 36, [], none) :: (some 37, [3], none) :: (some 8, [2, 0, 1, 2], none) :: (some 1, [4, 5, 0, 1, 2, 3, 4, 5], none) :: []), (0 :: 1 :: 3 :: 0 :: 8 :: 7 :: 63 :: []), (true :: true :: true :: true :: true :: true :: []), [], 0⟩ 6 50 ((0, 33) :: (1, 34) :: (2, 35) :: (3, 36) :: (4, 37) :: (5, 8) :: []) ((0, 33) :: (1, 34) :: (2, 35) :: (3, 36) :: (4, 37) :: (5, 8) :: []) (.det _ :: .det _ :: .det _ :: .det _ :: .det _ :: .det _ :: []) (by kernel_rfl) (by kernel_rfl) (by kernel_rfl) rfl (by kernel_rfl) (by kernel_rfl) rfl ?hone ?hend
            case hone =>
              intro CS frS VS hCS ha hV
              have qs1 := slot_val (t := 1) ha rfl
              simp only [List.getElem_toArray, List.getElem_cons_succ, List.getElem_cons_zero] at qs1
              have HCS := Lib.hid hCS
              have HVS := Lib.hid hV
              clear ha hCS hV
              -- 0: slot 33 := Op.move t1
              refine sure_det (js := []) (ts := [1]) (gd := none) (place_at HVS.out (k := 0) rfl) (by rw [HCS.out]; kernel_rfl) ?_ ?_
              · intro wx hx ρ hρ hs hf
                have hρc := hρ.const
                have hρf := hρ.func
                obtain ⟨fx1, -⟩ := hf
                rw [qs1] at fx1
                clear hs
                clear HCS HVS qs1
                refine run_plain ?_
                refine op_move rfl fx1 ?_
                exact detK.mk
              -- 1: slot 34 := Op.indexAddr 44 t33 ((i64 0))
              refine sure_det (js := [(0, 33)]) (ts := []) (gd := none) (place_at HVS.out (k := 1) rfl) (by rw [HCS.out]; kernel_rfl) ?_ ?_
              · intro wx hx ρ hρ hs hf
                have hρc := hρ.const
                have hρf := hρ.func
                obtain ⟨sn0, -⟩ := hs
                rw [place_at HVS.out (k := 0) rfl] at sn0
                replace sn0 : ρ (.tmp 33) = _ := sn0
                clear hf
                clear HCS HVS qs1
                refine run_plain ?_
                unfold runs
                go_simp
                exact detK.mk
              -- 2: slot 35 := Op.load 3 t34
              refine sure_det (js := [(1, 34)]) (ts := []) (gd := none) (place_at HVS.out (k := 2) rfl) (by rw [HCS.out]; kernel_rfl) ?_ ?_
              · intro wx hx ρ hρ hs hf
                have hρc := hρ.const
                have hρf := hρ.func
                obtain ⟨sn1, -⟩ := hs
                rw [place_at HVS.out (k := 1) rfl] at sn1
                replace sn1 : ρ (.tmp 34) = _ := sn1
                clear hf
                clear HCS HVS qs1
                refine run_plain ?_
                have pM := hcM2 wx (hXa.trans hx.drawn)
                unfold runs
                go_simp
                exact detK.mk
              -- 3: slot 36 := Op.move t1
              refine sure_det (js := []) (ts := [1]) (gd := none) (place_at HVS.out (k := 3) rfl) (by rw [HCS.out]; kernel_rfl) ?_ ?_
              · intro wx hx ρ hρ hs hf
                have hρc := hρ.const
                have hρf := hρ.func
                obtain ⟨fx1, -⟩ := hf
                rw [qs1] at fx1
                clear hs
                clear HCS HVS qs1
                refine run_plain ?_
                refine op_move rfl fx1 ?_
                exact detK.mk
              -- 4: slot 37 := Op.slice 44 t36 (some ((i64 1))) none none
              refine sure_det (js := [(3, 36)]) (ts := []) (gd := none) (place_at HVS.out (k := 4) rfl) (by rw [HCS.out]; kernel_rfl) ?_ ?_
              · intro wx hx ρ hρ hs hf
                have hρc := hρ.const
                have hρf := hρ.func
                obtain ⟨sn3, -⟩ := hs
                rw [place_at HVS.out (k := 3) rfl] at sn3
                replace sn3 : ρ (.tmp 36) = _ := sn3
                clear hf
                clear HCS HVS qs1
                refine run_plain ?_
                unfold runs
                go_simp
                exact detK.mk
              -- 5: slot 8 := Op.assign t35
              refine sure_det (js := [(2, 35)]) (ts := []) (gd := none) (place_at HVS.out (k := 5) rfl) (by rw [HCS.out]; kernel_rfl) ?_ ?_
              · intro wx hx ρ hρ hs hf
                have hρc := hρ.const
                have hρf := hρ.func
                obtain ⟨sn2, -⟩ := hs
                rw [place_at HVS.out (k := 2) rfl] at sn2
                replace sn2 : ρ (.tmp 35) = _ := sn2
                clear hf
                clear HCS HVS qs1
                refine run_plain ?_
                refine op_assign rfl sn2 ?_
                exact detK.mk
              exact trivial
            case hend =>
              intro xs wx hx hg
              have gk0 : xs 0 = _ := goods_get hg (i := 0) (j := 0) (d := 33) rfl
              have gk1 : xs 1 = _ := goods_get hg (i := 1) (j := 1) (d := 34) rfl
              have gk2 : xs 2 = _ := goods_get hg (i := 2) (j := 2) (d := 35) rfl
              have gk3 : xs 3 = _ := goods_get hg (i := 3) (j := 3) (d := 36) rfl
              have gk4 : xs 4 = _ := goods_get hg (i := 4) (j := 4) (d := 37) rfl
              have gk5 : xs 5 = _ := goods_get hg (i := 5) (j := 5) (d := 8) rfl
              clear hg
              simp only [putAll, gk0, gk1, gk2, gk3, gk4, gk5]
              clear gk0 gk1 gk2 gk3 gk4 gk5
              clear xs
              simp only [Act.put, List.setIfInBounds_toArray, List.set_cons_zero, List.set_cons_succ, List.drop_succ_cons, List.drop_zero]
              have hxx0 : Ext Wa wx := hx.drawn
              have hEb := heap_ext hEa hxx0
              have hOb := heap_ext hOa hxx0
              have hXb := hXa.trans hxx0
              have sb0 := hxx0.cell sa0
              have sb1 := hxx0.cell sa1
              have fb0 : wx.frozen? ⟨gc, j * 2, none⟩ = false := by rw [hxx0.frozen hgla]; exact fa0
              have fb1 : wx.frozen? ⟨gc, j * 2 + 1, none⟩ = false := by rw [hxx0.frozen hgla]; exact fa1
              have hglb := Nat.lt_of_lt_of_le hgla hxx0.size
              have hbb := (hxx0.block gc hgla).trans hba
              have hBb := heap_ext hBa hxx0
              have hRb := ownsRow_ext hRa hxx0
              clear hEa hOa hXa sa0 sa1 fa0 fa1 hgla hba hBa hxx0 hx
              generalize wx = Wb at *
              go_upto_region 11 with (fail)
              clear hsl
              have hX : ∀ wx, Ext Wb wx → wx.cell? ⟨w.heap.size, 2, none⟩ = some (.slice (some ⟨gc, 0, none⟩) n1 cc) ∧ wx.cell? ⟨g7, 0, none⟩ = some (.slice s.D s.q s.cd) ∧ wx.cell? ⟨g7, 1, none⟩ = some (.int .i64 s.k) ∧ Ext w wx := fun wx hx' =>
                ⟨hx'.cell (by simp [World.cell?, hEb]), hx'.cell (by simp [World.cell?, hBb]), hx'.cell (by simp [World.cell?, hBb]), hXb.trans hx'⟩
              refine' wp_region_sure ⟨((some 38, [], none) :: (some 39, [], none) :: (some 40, [1, 0], none) :: (some 41, [2], none) :: (some 42, [], none) :: (some 43, [], none) :: (some 44, [], none) :: (some 45, [5, 6], none) :: (some 46, [3, 4, 0, 1, 2, 3, 4, 5, 6, 7], none) :: (none, [8, 7, 7, 0, 1, 2, 3, 4, 5, 6, 7], none) :: []), (0 :: 0 :: 3 :: 7 :: 0 :: 0 :: 0 :: 96 :: 255 :: 511 :: []), (true :: true :: true :: true :: true :: true :: true :: true :: []), [], 0⟩ 8 50 ((0, 38) :: (1, 39) :: (2, 40) :: (3, 41) :: (4, 42) :: (5, 43) :: (6, 44) :: (7, 45) :: []) ((0, 38) :: (1, 39) :: (2, 40) :: (3, 41) :: (4, 42) :: (5, 43) :: (6, 44) :: (7, 45) :: []) (.det _ :: .det _ :: .det _ :: .det _ :: .det _ :: .det _ :: .det _ :: .det _ :: []) (by kernel_rfl) (by kernel_rfl) (by kernel_rfl) rfl (by kernel_rfl) (by kernel_rfl) rfl ?hone ?hend
              case hone =>
                intro CS frS VS hCS ha hV
                have qs2 := slot_val (t := 2) ha rfl
                simp only [List.getElem_toArray, List.getElem_cons_succ, List.getElem_cons_zero] at qs2
                have qs5 := slot_val (t := 5) ha rfl
                simp only [List.getElem_toArray, List.getElem_cons_succ, List.getElem_cons_zero] at qs5
                have qs6 := slot_val (t := 6) ha rfl
                simp only [List.getElem_toArray, List.getElem_cons_succ, List.getElem_cons_zero] at qs6
                have qs7 := slot_val (t := 7) ha rfl
                simp only [List.getElem_toArray, List.getElem_cons_succ, List.getElem_cons_zero] at qs7
                have qs8 := slot_val (t := 8) ha rfl
                simp only [List.getElem_toArray, List.getElem_cons_succ, List.getElem_cons_zero] at qs8
                have HCS := Lib.hid hCS
                have HVS := Lib.hid hV
                clear ha hCS hV
                -- 0: slot 38 := Op.move t5
                refine sure_det (js := []) (ts := [5]) (gd := none) (place_at HVS.out (k := 0) rfl) (by rw [HCS.out]; kernel_rfl) ?_ ?_
                · intro wx hx ρ hρ hs hf
                  have hρc := hρ.const
                  have hρf := hρ.func
                  obtain ⟨fx5, -⟩ := hf
                  rw [qs5] at fx5
                  clear hs
                  clear HCS HVS qs2 qs5 qs6 qs7 qs8
                  refine run_plain ?_
                  refine op_move rfl fx5 ?_
                  exact detK.mk
                -- 1: slot 39 := Op.fieldAddr 30 t2 1
                refine sure_det (js := []) (ts := [2]) (gd := none) (place_at HVS.out (k := 1) rfl) (by rw [HCS.out]; kernel_rfl) ?_ ?_
                · intro wx hx ρ hρ hs hf
                  have hρc := hρ.const
                  have hρf := hρ.func
                  obtain ⟨fx2, -⟩ := hf
                  rw [qs2] at fx2
                  clear hs
                  clear HCS HVS qs2 qs5 qs6 qs7 qs8
                  refine run_plain ?_
                  unfold runs
                  go_simp
                  exact detK.mk
                -- 2: slot 40 := Op.indexAddr 28 t39 t38
                refine sure_det (js := [(1, 39), (0, 38)]) (ts := []) (gd := none) (place_at HVS.out (k := 2) rfl) (by rw [HCS.out]; kernel_rfl) ?_ ?_
                · intro wx hx ρ hρ hs hf
                  have hρc := hρ.const
                  have hρf := hρ.func
                  obtain ⟨sn1, sn0, -⟩ := hs
                  rw [place_at HVS.out (k := 1) rfl] at sn1
                  replace sn1 : ρ (.tmp 39) = _ := sn1
                  rw [place_at HVS.out (k := 0) rfl] at sn0
                  replace sn0 : ρ (.tmp 38) = _ := sn0
                  clear hf
                  clear HCS HVS qs2 qs5 qs6 qs7 qs8
                  refine run_plain ?_
                  unfold runs
                  go_simp
                  exact detK.mk
                -- 3: slot 41 := Op.load 27 t40
                refine sure_det (js := [(2, 40)]) (ts := []) (gd := none) (place_at HVS.out (k := 3) rfl) (by rw [HCS.out]; kernel_rfl) ?_ ?_
                · intro wx hx ρ hρ hs hf
                  have hρc := hρ.const
                  have hρf := hρ.func
                  obtain ⟨sn2, -⟩ := hs
                  rw [place_at HVS.out (k := 2) rfl] at sn2
                  replace sn2 : ρ (.tmp 40) = _ := sn2
                  clear hf
                  clear HCS HVS qs2 qs5 qs6 qs7 qs8
                  refine run_plain ?_
                  obtain ⟨p0, p1, p2, -⟩ := hX wx hx.drawn
                  unfold runs
                  go_simp
                  exact detK.mk
                -- 4: slot 42 := Op.move t6
                refine sure_det (js := []) (ts := [6]) (gd := none) (place_at HVS.out (k := 4) rfl) (by rw [HCS.out]; kernel_rfl) ?_ ?_
                · intro wx hx ρ hρ hs hf
                  have hρc := hρ.const
                  have hρf := hρ.func
                  obtain ⟨fx6, -⟩ := hf
                  rw [qs6] at fx6
                  clear hs
                  clear HCS HVS qs2 qs5 qs6 qs7 qs8
                  refine run_plain ?_
                  refine op_move rfl fx6 ?_
                  exact detK.mk
                -- 5: slot 43 := Op.load 90 t7
                refine sure_det (js := []) (ts := [7]) (gd := none) (place_at HVS.out (k := 5) rfl) (by rw [HCS.out]; kernel_rfl) ?_ ?_
                · intro wx hx ρ hρ hs hf
                  have hρc := hρ.const
                  have hρf := hρ.func
                  obtain ⟨fx7, -⟩ := hf
                  rw [qs7] at fx7
                  clear hs
                  clear HCS HVS qs2 qs5 qs6 qs7 qs8
                  refine run_plain ?_
                  obtain ⟨p0, p1, p2, -⟩ := hX wx hx.drawn
                  unfold runs
                  go_simp
                  exact detK.mk
                -- 6: slot 44 := Op.move t8
                refine sure_det (js := []) (ts := [8]) (gd := none) (place_at HVS.out (k := 6) rfl) (by rw [HCS.out]; kernel_rfl) ?_ ?_
                · intro wx hx ρ hρ hs hf
                  have hρc := hρ.const
                  have hρf := hρ.func
                  obtain ⟨fx8, -⟩ := hf
                  rw [qs8] at fx8
                  clear hs
                  clear HCS HVS qs2 qs5 qs6 qs7 qs8
                  refine run_plain ?_
                  refine op_move rfl fx8 ?_
                  exact detK.mk
                -- 7: slot 45 := Op.call { call ( 48), args := #[t43, t44], argTypes := #[90, 3] }
                refine sure_det (js := [(5, 43), (6, 44)]) (ts := []) (gd := none) (place_at HVS.out (k := 7) rfl) (by rw [HCS.out]; kernel_rfl) ?_ ?_
                · intro wx hx ρ hρ hs hf
                  have hρc := hρ.const
                  have hρf := hρ.func
                  obtain ⟨sn5, sn6, -⟩ := hs
                  rw [place_at HVS.out (k := 5) rfl] at sn5
                  replace sn5 : ρ (.tmp 43) = _ := sn5
                  rw [place_at HVS.out (k := 6) rfl] at sn6
                  replace sn6 : ρ (.tmp 44) = _ := sn6
                  clear hf
                  clear HCS HVS qs2 qs5 qs6 qs7 qs8
                  refine run_plain ?_
                  refine op_call rfl hρ Try.call48 (map_two sn5 sn6) ?_
                  refine Calls.mono (stcut_any s z _ (hsok.ext (hX _ hx.drawn).2.2.2) hsq hsr) ?_; rintro e w' ⟨rfl, hx5⟩; refine ⟨_, rfl, ?_⟩; exact detK.ext hx5
                exact trivial
              case hend =>
                intro xs wx hx hg
                have gk0 : xs 0 = _ := goods_get hg (i := 0) (j := 0) (d := 38) rfl
                have gk1 : xs 1 = _ := goods_get hg (i := 1) (j := 1) (d := 39) rfl
                have gk2 : xs 2 = _ := goods_get hg (i := 2) (j := 2) (d := 40) rfl
                have gk3 : xs 3 = _ := goods_get hg (i := 3) (j := 3) (d := 41) rfl
                have gk4 : xs 4 = _ := goods_get hg (i := 4) (j := 4) (d := 42) rfl
                have gk5 : xs 5 = _ := goods_get hg (i := 5) (j := 5) (d := 43) rfl
                have gk6 : xs 6 = _ := goods_get hg (i := 6) (j := 6) (d := 44) rfl
                have gk7 : xs 7 = _ := goods_get hg (i := 7) (j := 7) (d := 45) rfl
                clear hg
                simp only [putAll, gk0, gk1, gk2, gk3, gk4, gk5, gk6, gk7]
                clear gk0 gk1 gk2 gk3 gk4 gk5 gk6 gk7
                clear xs
                simp only [Act.put, List.setIfInBounds_toArray, List.set_cons_zero, List.set_cons_succ, List.drop_succ_cons, List.drop_zero]
                have hxx : Ext Wb wx := hx.drawn
                have x0 := hxx.cell sb0
                have x1 := hxx.cell sb1
                have y0 : wx.frozen? ⟨gc, j * 2, none⟩ = false := by rw [hxx.frozen hglb]; exact fb0
                have y1 : wx.frozen? ⟨gc, j * 2 + 1, none⟩ = false := by rw [hxx.frozen hglb]; exact fb1
                have hEx := heap_ext hEb hxx
                have hOx := heap_ext hOb hxx
                have hXx := hXb.trans hxx
                have hbx := (hxx.block gc hglb).trans hbb
                have hRx := ownsRow_ext hRb hxx
                clear hX hx hEb hOb hBb hXb sb0 sb1 fb0 fb1
                go_wp2
                have hXf : Ext w ((wx.setCell ⟨gc, j * 2, none⟩ (.slice (s.cut z).D (s.cut z).q (s.cut z).cd)).setCell ⟨gc, j * 2 + 1, none⟩ (.int .i64 (s.cut z).k)) := Ext.trans (show Ext w (wx.setCell ⟨gc, j * 2, none⟩ _) from hXx.setCell (show w.heap.size ≤ gc by omega) _) (Ext.refl _) |>.setCell (show w.heap.size ≤ gc by omega) _
                have hnew := hset (s.cut z) ((wx.setCell ⟨gc, j * 2, none⟩ (.slice (s.cut z).D (s.cut z).q (s.cut z).cd)).setCell ⟨gc, j * 2 + 1, none⟩ (.int .i64 (s.cut z).k)) (fun x hx' => by
                    rcases List.mem_cons.1 hx' with rfl | hx'
                    · exact (hsok.cut hsr _).ext hXf
                    · exact hLok _ hXf x hx') (heap_set_congr (heap_set_congr hbx))
                go_roundw
                case rel => exact ⟨j + 1, _, _, _, L.set j (s.cut z), by omega, by go_num, rfl, by rw [hmd2]; exact hM2, hnew.own, hstep,
                  by rw [Below.heap_setCell _ _ _ _ (by simp; omega), Below.heap_setCell _ _ _ _ (by simp; omega)]; exact hEx,
                  by rw [Below.heap_setCell _ _ _ _ (by simp; omega), Below.heap_setCell _ _ _ _ (by simp; omega)]; exact hOx, hXf, own_other (own_other hRx (fun a ha => by have := hBlt a ha; simp; omega)) (fun a ha => by have := hBlt a ha; simp; omega)⟩
                case measure => simp [intOf]; omega
        · obtain rfl : j = n1 := by omega
          go_wp2
          go_roundw
          case rel => exact ⟨hxq, hO, .inr (.inr ⟨_, _, _, _, L0, L, by go_num, hE, hRq, hown, hC0, hcut⟩)⟩
          case measure => simp [intOf]
    · have hlt : w.heap.size + 1 < wr.heap.size := (Array.getElem?_eq_some_iff.1 hO).1
      have e0 : wr.cell? ⟨w.heap.size, 0, none⟩ = some (.int .u64 R) := by simp [World.cell?, hE]
      have e1 : wr.cell? ⟨w.heap.size, 1, none⟩ = some (.slice B0 n0 b0) := by simp [World.cell?, hE]
      have e2 : wr.cell? ⟨w.heap.size, 2, none⟩ = some (.slice B1 n1 b1) := by simp [World.cell?, hE]
      have d0 : wr.cell? ⟨w.heap.size + 1, 0, none⟩ = some (.int .u64 0) := by simp [World.cell?, hO]
      have df0 : wr.frozen? ⟨w.heap.size + 1, 0, none⟩ = false := by simp [World.frozen?, hO]
      have d1 : wr.cell? ⟨w.heap.size + 1, 1, none⟩ = some (.slice none 0 0) := by simp [World.cell?, hO]
      have df1 : wr.frozen? ⟨w.heap.size + 1, 1, none⟩ = false := by simp [World.frozen?, hO]
      have d2 : wr.cell? ⟨w.heap.size + 1, 2, none⟩ = some (.slice none 0 0) := by simp [World.cell?, hO]
      have df2 : wr.frozen? ⟨w.heap.size + 1, 2, none⟩ = false := by simp [World.frozen?, hO]
      have hF0 : OwnR wr (w.heap.size + 2) (.slice B0 n0 b0) n0 L0 := ⟨hR0, fun x hx' => (hC0.ok h0.ok hr0 x hx').ext hx⟩
      have hF1 : OwnR wr (w.heap.size + 2) (.slice B1 n1 b1) n1 L1 := ⟨hR1, fun x hx' => (hC1.ok h1.ok hr1 x hx').ext hx⟩
      obtain ⟨_, _, e', hV0⟩ := hF0.form
      cases e'
      obtain ⟨_, _, e', hV1⟩ := hF1.form
      cases e'
      have hV0' := fun vs => hV0.box hO (fun v hv => diskish_three v hv rfl rfl rfl) 0 vs
      have hV1' := fun vs => hV1.box hO (fun v hv => diskish_three v hv rfl rfl rfl) 0 vs
      clear hE hO hF0 hF1 hR0 hR1 hV0 hV1
      go_wp2
      refine bodyPost_ret (v := .agg #[.int .u64 R, .slice B0 n0 b0, .slice B1 n1 b1]) (by simp [results, Try.results76, go_sem, d0, d1, d2]) rfl ⟨_, _, _, _, L0, L1, rfl, hV0' [.int .u64 R, .slice B0 n0 b0, .slice B1 n1 b1], hV1' [.int .u64 R, .slice B0 n0 b0, .slice B1 n1 b1], hC0, hC1, ?_⟩
      exact setAll_ext (g := w.heap.size + 1) (vs := [.int .u64 R, .slice B0 n0 b0, .slice B1 n1 b1]) (i := 0) hx (by omega)
end Go.Proofs.Ytennnhfaghdeoaa
