import Derived.Test.YtennnhfaghdeoaaChecked
import Derived.Test.YtennnhfaghdeoaaStream
import Derived.Test.YtennnhfaghdeoaaSlices
import Derived.Deep.CutRange
import Derived.LoopTactic
import Derived.Lib.Hide
import Derived.Lib.LazyBuf
namespace Go.Proofs.Ytennnhfaghdeoaa
open Go.RowKit

/-! Disks: rows of streams. -/
/-- a stream: where its bytes stand, how many, how much is synced, and the bytes -/
structure St where
  D : Option Addr
  q : Nat
  cd : Nat
  k : Int
  d : List UInt8
def St.cells (s : St) : List Value := [.slice s.D s.q s.cd, .int .i64 s.k]
/-- what is told of it -/
def St.key (s : St) : List UInt8 × Int := (s.d, s.k)
def St.zero : St := ⟨none, 0, 0, 0, []⟩
def StOK (w : World) (s : St) : Prop := BytesV w s.D s.q s.cd s.d
theorem StOK.ext {w w' : World} {s : St} (h : StOK w s) (hx : Ext w w') : StOK w' s := BytesV.ext h hx
theorem StOK.zero (w : World) : StOK w St.zero := ⟨rfl, Nat.le_refl _, Nat.zero_le _, fun _ => rfl, Cells.nil _ _⟩
theorem StOK.set {w : World} {s : St} (h : StOK w s) {p : Addr} (hp : s.d ≠ [] → ∀ a, s.D = some a → a.block ≠ p.block) (u : Value) : StOK (w.setCell p u) s :=
  ⟨h.len, h.le, h.cap, h.nil, h.cells.set (fun hn => hp fun e => hn (by rw [e]; rfl)) u⟩
theorem StOK.low {w : World} {s : St} (h : StOK w s) (hd : s.d ≠ []) (a : Addr) (ha : s.D = some a) : a.block < w.heap.size := by
  have hc := h.cells
  rw [ha] at hc
  exact hc.lt fun e => hd (by simpa [bytesOf] using e)
def rowCells (l : List St) : List Value := l.flatMap St.cells
theorem rowCells_append (a b : List St) : rowCells (a ++ b) = rowCells a ++ rowCells b := by simp [rowCells]
theorem rowCells_length (l : List St) : (rowCells l).length = l.length * 2 := by
  induction l with
  | nil => rfl
  | cons x l ih => simp only [rowCells, List.flatMap_cons, List.length_append] at ih ⊢; rw [ih]; simp [St.cells]; omega
theorem rowCells_one (l : List St) : ∀ u ∈ rowCells l, u.oneCell' = true := by
  intro u hu
  obtain ⟨x, _, hx⟩ := List.mem_flatMap.1 hu
  simp [St.cells] at hx
  rcases hx with rfl | rfl <;> rfl
theorem rowCells_at : ∀ {l : List St} {j : Nat} {s : St}, l[j]? = some s → (rowCells l)[j * 2]? = some (.slice s.D s.q s.cd) ∧ (rowCells l)[j * 2 + 1]? = some (.int .i64 s.k)
  | [], j, s, h => by simp at h
  | x :: l, 0, s, h => by
    obtain rfl : x = s := by simpa using h
    exact ⟨rfl, rfl⟩
  | x :: l, j + 1, s, h => by
    have ih := rowCells_at (l := l) (j := j) (s := s) (by simpa using h)
    have e : rowCells (x :: l) = x.cells ++ rowCells l := rfl
    rw [e, List.getElem?_append_right (by simp [St.cells]; omega), List.getElem?_append_right (by simp [St.cells]; omega)]
    simp only [St.cells, List.length_cons, List.length_nil]
    exact ⟨by rw [show (j + 1) * 2 - (0 + 1 + 1) = j * 2 by omega]; exact ih.1, by rw [show (j + 1) * 2 + 1 - (0 + 1 + 1) = j * 2 + 1 by omega]; exact ih.2⟩
theorem rowCells_set : ∀ {l : List St} {j : Nat} (s : St), rowCells (l.set j s) = ((rowCells l).set (j * 2) (.slice s.D s.q s.cd)).set (j * 2 + 1) (.int .i64 s.k)
  | [], j, s => by simp [rowCells]
  | x :: l, 0, s => rfl
  | x :: l, j + 1, s => by
    have ih := rowCells_set (l := l) (j := j) s
    have e : ∀ (y : St) (t : List St), rowCells (y :: t) = .slice y.D y.q y.cd :: .int .i64 y.k :: rowCells t := fun _ _ => rfl
    rw [List.set_cons_succ, e, e, ih, show (j + 1) * 2 = j * 2 + 1 + 1 by omega, show j * 2 + 1 + 1 + 1 = (j * 2 + 1) + 1 + 1 by omega]
    simp only [List.set_cons_succ]
structure RowV (w : World) (A : Option Addr) (n c : Nat) (l : List St) : Prop where
  len : l.length = n
  le : n ≤ c
  cap : c ≤ maxLen
  nil : A = none → c = 0
  cells : Cells w A (rowCells l)
  ok : ∀ s ∈ l, StOK w s
theorem RowV.ext {w w' : World} {A : Option Addr} {n c : Nat} {l : List St} (h : RowV w A n c l) (hx : Ext w w') : RowV w' A n c l := ⟨h.len, h.le, h.cap, h.nil, h.cells.ext hx, fun s hs => (h.ok s hs).ext hx⟩
theorem RowV.none0 {w : World} {A : Option Addr} {n c : Nat} {l : List St} (h : RowV w A n c l) : A = none → c = 0 ∧ n = 0 := fun e => by
  have := h.nil e; have := h.le; omega
theorem RowV.at {w : World} {A : Option Addr} {n c : Nat} {l : List St} (h : RowV w A n c l) {j : Nat} {s : St} (hs : l[j]? = some s) :
    ∃ a, A = some a ∧ w.cell? (a.add (j * 2)) = some (.slice s.D s.q s.cd) ∧ w.cell? ⟨(a.add (j * 2)).block, (a.add (j * 2)).off + 1, none⟩ = some (.int .i64 s.k) ∧ StOK w s := by
  obtain ⟨h1, h2⟩ := rowCells_at hs
  obtain ⟨a, ha, hc⟩ := h.cells (fun e => by rw [e] at h1; simp at h1)
  refine ⟨a, ha, hc _ _ h1, ?_, h.ok s (List.mem_of_getElem? hs)⟩
  have := hc _ _ h2
  rw [← addr_add_add] at this
  exact this
theorem row_nil (w : World) : RowV w none 0 0 [] := ⟨rfl, Nat.le_refl _, Nat.zero_le _, fun _ => rfl, Cells.nil _ _, fun s h => by cases h⟩
/-- a row of the call's own -/
structure OwnR (w : World) (base : Nat) (v : Value) (n : Nat) (l : List St) : Prop where
  own : w.ownsRow base 90 2 v n (rowCells l)
  ok : ∀ s ∈ l, StOK w s
theorem OwnR.ext {w w' : World} {base : Nat} {v : Value} {n : Nat} {l : List St} (h : OwnR w base v n l) (hx : Ext w w') : OwnR w' base v n l := ⟨ownsRow_ext h.own hx, fun s hs => (h.ok s hs).ext hx⟩
theorem OwnR.low {w : World} {base base' : Nat} {v : Value} {n : Nat} {l : List St} (h : OwnR w base v n l) (hb : base' ≤ base) : OwnR w base' v n l := ⟨⟨h.own.1, by
  rcases h.own.2 with h2 | ⟨g, cap, cur, h3, h4, h5⟩
  · exact .inl h2
  · exact .inr ⟨g, cap, cur, h3, Nat.le_trans hb h4, h5⟩⟩, h.ok⟩
theorem OwnR.len {w : World} {base : Nat} {v : Value} {n : Nat} {l : List St} (h : OwnR w base v n l) : l.length = n := by
  have := h.own.1
  rw [rowCells_length] at this; omega
theorem OwnR.form {w : World} {base : Nat} {v : Value} {n : Nat} {l : List St} (h : OwnR w base v n l) : ∃ A c, v = .slice A n c ∧ RowV w A n c l := by
  rcases h.own.2 with ⟨rfl, rfl⟩ | ⟨g, cap, cur, rfl, hb, hh, hn, hc, hs, ht⟩
  · have := List.eq_nil_of_length_eq_zero h.len
    subst this
    exact ⟨none, 0, rfl, row_nil w⟩
  · exact ⟨_, cap, rfl, h.len, hn, hc, (by intro h; cases h), fun _ => ⟨_, rfl, h.own.cells (g := g) rfl⟩, h.ok⟩
/-- one of its streams: its cells may be written -/
theorem OwnR.at {w : World} {base : Nat} {v : Value} {n : Nat} {l : List St} (h : OwnR w base v n l) {j : Nat} {s : St} (hs : l[j]? = some s) :
    ∃ g c, v = .slice (some ⟨g, 0, none⟩) n c ∧ base ≤ g ∧ g < w.heap.size ∧ n ≤ c ∧ w.cell? ⟨g, j * 2, none⟩ = some (.slice s.D s.q s.cd) ∧ w.cell? ⟨g, j * 2 + 1, none⟩ = some (.int .i64 s.k) ∧ w.frozen? ⟨g, j * 2, none⟩ = false ∧ w.frozen? ⟨g, j * 2 + 1, none⟩ = false ∧
      ∀ s' w', (∀ x ∈ s' :: l, StOK w' x) → w'.heap[g]? = ((w.setCell ⟨g, j * 2, none⟩ (.slice s'.D s'.q s'.cd)).setCell ⟨g, j * 2 + 1, none⟩ (.int .i64 s'.k)).heap[g]? → OwnR w' base v n (l.set j s') := by
  have hj : j < l.length := (List.getElem?_eq_some_iff.1 hs).1
  have hlen := h.len
  rcases h.own.2 with ⟨rfl, h0⟩ | ⟨g, cap, cur, rfl, hb, hh, hn, hc, hsz, ht⟩
  · omega
  · obtain ⟨h1, h2⟩ := rowCells_at hs
    have key : ∀ i u, i < n * 2 → (rowCells l)[i]? = some u → cur[i]? = some u := fun i u hi hu => by
      rw [← ht, List.getElem?_take] at hu
      simp only [hi, if_true] at hu
      simpa using hu
    have k1 := key _ _ (by omega) h1
    have k2 := key _ _ (by omega) h2
    refine ⟨g, cap, rfl, hb, (Array.getElem?_eq_some_iff.1 hh).1, hn, by simp [World.cell?, hh, k1], by simp [World.cell?, hh, k2], by simp [World.frozen?, hh], by simp [World.frozen?, hh], fun s' w' hok hw => ⟨⟨by rw [rowCells_length, List.length_set]; omega, .inr ⟨g, cap, (cur.setIfInBounds (j * 2) (.slice s'.D s'.q s'.cd)).setIfInBounds (j * 2 + 1) (.int .i64 s'.k), rfl, hb, ?_, hn, hc, by simpa using hsz, ?_⟩⟩, fun x hx => ?_⟩⟩
    · rw [hw]
      exact heap_setCell_at (heap_setCell_at hh)
    · rw [Array.toList_setIfInBounds, Array.toList_setIfInBounds, List.take_set, List.take_set, ht, rowCells_set]
    · rcases List.mem_or_eq_of_mem_set hx with h' | h'
      · exact hok x (by simp [h'])
      · exact hok x (by simp [h'])
/-- another block is written -/
theorem OwnR.other {w : World} {base : Nat} {A : Option Addr} {n c : Nat} {l : List St} (h : OwnR w base (.slice A n c) n l) {p : Addr} {u : Value} (hp : ∀ a, A = some a → a.block ≠ p.block) (hok : ∀ s ∈ l, StOK (w.setCell p u) s) : OwnR (w.setCell p u) base (.slice A n c) n l := by
  refine ⟨⟨h.own.1, ?_⟩, hok⟩
  rcases h.own.2 with h2 | ⟨g, cap, cur, h3, h4, h5, h6⟩
  · exact .inl h2
  · refine .inr ⟨g, cap, cur, h3, h4, ?_, h6⟩
    have hA : A = some ⟨g, 0, none⟩ := by simpa using (Value.slice.inj h3).1
    rw [Below.heap_setCell _ _ _ _ (hp _ hA)]
    exact h5
/-- is there such a stream? -/
def isB (row i : Int) (n0 n1 : Nat) : Bool := if row = 0 then decide (0 ≤ i ∧ i < (n0 : Int)) else if row = 1 then decide (0 ≤ i ∧ i < (n1 : Int)) else false
set_option maxRecDepth 100000 in
set_option maxHeartbeats 1000000 in
theorem is_any7 (R : Int) (A0 A1 : Option Addr) (n0 c0 n1 c1 : Nat) (row i : Int) (w : World) :
    Calls Try.prog 95 #[.agg #[.int .u64 R, .slice A0 n0 c0, .slice A1 n1 c1], .int .i64 row, .int .i64 i] w fun e w' => e = .returned (.bool (isB row i n0 n1)) ∧ Ext w w' := by
  have hE : Ext w (w.alloc (.cells #[.int .u64 R, .slice A0 n0 c0, .slice A1 n1 c1] 30)) := (Below.refl _ w).alloc (Nat.le_refl _) _
  by_cases h0 : row = 0
  · subst h0
    by_cases hi : 0 ≤ i
    · by_cases hn : i < (n0 : Int)
      · rw [show isB 0 i n0 n1 = true by simp [isB, hi, hn]]
        go_enter Try.func95, Try.ntmps95
        go_wp2
        go_ret
        exact ⟨rfl, hE⟩
      · rw [show isB 0 i n0 n1 = false by simp [isB, hn]]
        go_enter Try.func95, Try.ntmps95
        go_wp2
        go_ret
        exact ⟨rfl, hE⟩
    · rw [show isB 0 i n0 n1 = false by simp [isB, hi]]
      go_enter Try.func95, Try.ntmps95
      go_wp2
      go_ret
      exact ⟨rfl, hE⟩
  · by_cases h1 : row = 1
    · subst h1
      by_cases hi : 0 ≤ i
      · by_cases hn : i < (n1 : Int)
        · rw [show isB 1 i n0 n1 = true by simp [isB, hi, hn]]
          go_enter Try.func95, Try.ntmps95
          go_wp2
          go_ret
          exact ⟨rfl, hE⟩
        · rw [show isB 1 i n0 n1 = false by simp [isB, hn]]
          go_enter Try.func95, Try.ntmps95
          go_wp2
          go_ret
          exact ⟨rfl, hE⟩
      · rw [show isB 1 i n0 n1 = false by simp [isB, hi]]
        go_enter Try.func95, Try.ntmps95
        go_wp2
        go_ret
        exact ⟨rfl, hE⟩
    · rw [show isB row i n0 n1 = false by simp [isB, h0, h1]]
      by_cases h2 : 0 ≤ row
      · have h3 : ¬ row < 2 := by omega
        go_enter Try.func95, Try.ntmps95
        go_wp2
        go_ret
        exact ⟨rfl, hE⟩
      · go_enter Try.func95, Try.ntmps95
        go_wp2
        go_ret
        exact ⟨rfl, hE⟩
theorem own_start (w : World) : (w.alloc (.cells #[] 90)).ownsRow w.heap.size 90 2 (.slice (some ⟨w.heap.size, 0, none⟩) 0 0) 0 [] :=
  ⟨by simp, .inr ⟨_, 0, #[], rfl, Nat.le_refl _, heap_alloc_new w _, Nat.le_refl _, Nat.zero_le _, by simp, by simp⟩⟩
set_option maxRecDepth 100000 in
set_option maxHeartbeats 1000000 in
/-- slices.Clone of a row of streams -/
theorem clone_row (A : Option Addr) (n c : Nat) (l : List St) (w : World) (hA : RowV w A n c l) (hn : n ≤ 65536) :
    Calls Try.prog 97 #[.slice A n c] w fun e w' => ∃ v, e = .returned v ∧ OwnR w' w.heap.size v n l ∧ Ext w w' := by
  obtain ⟨i0, hi0, hz0, hz1, hz2⟩ := info_parts info_stream
  have hbs : ∀ W : World, (Instr.buildSlice 27 0 #[]).run Try.prog W = .ok (.slice (some ⟨W.heap.size, 0, none⟩) 0 0) (W.alloc (.cells #[] 90)) := fun _ => by kernel_rfl
  have hnil := fun (W : World) (A : Option Addr) (n c : Nat) => Go.run_eql_slice_nil (P := Try.prog) W 27 90 A n c Try.underlying27
  have hlen := hA.len
  rcases A with _ | a
  · obtain ⟨rfl, rfl⟩ := hA.none0 rfl
    have := List.eq_nil_of_length_eq_zero hlen
    subst this
    go_enter Try.func97, Try.ntmps97
    go_wp2
    go_ret
    exact ⟨_, rfl, ⟨World.ownsRow_nil _ _ _ _, fun s h => by cases h⟩, Ext.refl _⟩
  · have hW : Ext w (w.alloc (.cells #[] 90)) := (Below.refl _ w).alloc (Nat.le_refl _) _
    have hown0 := own_start w
    go_enter Try.func97, Try.ntmps97
    go_wp2_with (at_builtin; refine wpList_append_own_any rfl (.tmp 5) (.tmp 6) _ _ rfl w.heap.size i0 _ 2 32 Try.underlying27 hi0 hz0 hz1 hz2 rfl (by decide) _ 0 [] rfl hown0 (some a) n c (rowCells l) rfl (by rw [rowCells_length, hlen]) (hA.cells.ext hW) hA.none0 (rowCells_one _) (by simp only [maxLen]; omega) (by omega) (by simp) ?_; intro v1 w1 hown1 hb1)
    try simp only [Nat.zero_add, List.nil_append] at hown1
    have hX := Below.trans hW hb1
    go_ret
    exact ⟨_, rfl, ⟨hown1, fun s hs => (hA.ok s hs).ext hX⟩, hX⟩
set_option maxRecDepth 100000 in
set_option maxHeartbeats 1000000 in
/-- slices.Clone of bytes -/
theorem clone_bytes (A : Option Addr) (n c : Nat) (d : List UInt8) (w : World) (hA : BytesV w A n c d) (hn : n ≤ 65536) :
    Calls Try.prog 96 #[.slice A n c] w fun e w' => ∃ A' c', e = .returned (.slice A' n c') ∧ BytesV w' A' n c' d ∧ Ext w w' := by
  obtain ⟨i0, hi0, hz0, hz1, hz2⟩ := info_parts info_u8
  have hbs : ∀ W : World, (Instr.buildSlice 40 0 #[]).run Try.prog W = .ok (.slice (some ⟨W.heap.size, 0, none⟩) 0 0) (W.alloc (.cells #[] 5)) := fun _ => by kernel_rfl
  have hnil := fun (W : World) (A : Option Addr) (n c : Nat) => Go.run_eql_slice_nil (P := Try.prog) W 40 5 A n c Try.underlying40
  have hlen := hA.len
  rcases A with _ | a
  · obtain ⟨rfl, rfl⟩ := hA.none0 rfl
    go_enter Try.func96, Try.ntmps96
    go_wp2
    go_ret
    exact ⟨none, 0, rfl, hA, Ext.refl _⟩
  · have hW : Ext w (w.alloc (.cells #[] 5)) := (Below.refl _ w).alloc (Nat.le_refl _) _
    have hown0 : (w.alloc (.cells #[] 5)).ownsRow w.heap.size 5 1 (.slice (some ⟨w.heap.size, 0, none⟩) 0 0) 0 [] :=
      ⟨by simp, .inr ⟨_, 0, #[], rfl, Nat.le_refl _, heap_alloc_new w _, Nat.le_refl _, Nat.zero_le _, by simp, by simp⟩⟩
    go_enter Try.func96, Try.ntmps96
    go_wp2_with (at_builtin; refine wpList_append_own_any rfl (.tmp 5) (.tmp 6) _ _ rfl w.heap.size i0 _ 1 1 Try.underlying40 hi0 hz0 hz1 hz2 rfl (by decide) _ 0 [] rfl hown0 (some a) n c (bytesOf d) rfl (by rw [bytesOf_length, hlen]; omega) (hA.cells.ext hW) hA.none0 (bytesOf_one d) (by simp only [maxLen]; omega) (by omega) (by simp) ?_; intro v1 w1 hown1 hb1)
    try simp only [Nat.zero_add, List.nil_append] at hown1
    have hX := Below.trans hW hb1
    obtain ⟨A5, c5, rfl, h1, h2, h3, h4, -⟩ := own_form hown1
    go_ret
    exact ⟨_, _, rfl, ⟨hlen, h1, h2, h3, h4⟩, hX⟩
end Go.Proofs.Ytennnhfaghdeoaa
