import Derived.Test.YtennnhfaghdeoaaAccK
namespace Go.Proofs.Ytennnhfaghdeoaa
open Go.RowKit

/-! Boxes of worlds, memories, disks and results lie apart from rows, words and bytes: told apart by what stands in them. -/
def kindV : Value → Nat
  | .slice _ _ _ => 1
  | .int .i64 _ => 2
  | .int .u64 _ => 3
  | .int .u8 _ => 4
  | .bool _ => 5
  | _ => 0
def boxish : List Value → Bool
  | [] => true
  | [x] => kindV x != 4
  | x :: y :: l => (kindV x != 4) && (!(kindV x == 1 && kindV y == 2) && (!(kindV x == 3 && kindV y == 3) && boxish (y :: l)))
theorem boxish_one : ∀ {l : List Value} {i : Nat} {x : Value}, boxish l = true → l[i]? = some x → kindV x ≠ 4
  | [], i, x, _, h => by simp at h
  | [a], 0, x, hb, h => by simp at h; subst h; simpa [boxish] using hb
  | [a], i + 1, x, _, h => by simp at h
  | a :: b :: l, 0, x, hb, h => by simp at h; subst h; simp [boxish] at hb; exact hb.1
  | a :: b :: l, i + 1, x, hb, h => by
    simp [boxish] at hb
    exact boxish_one (l := b :: l) hb.2.2.2 (by simpa using h)
theorem boxish_two : ∀ {l : List Value} {i : Nat} {x y : Value}, boxish l = true → l[i]? = some x → l[i + 1]? = some y → ¬ (kindV x = 1 ∧ kindV y = 2) ∧ ¬ (kindV x = 3 ∧ kindV y = 3)
  | [], i, x, y, _, h, _ => by simp at h
  | [a], 0, x, y, _, _, h => by simp at h
  | [a], i + 1, x, y, _, h, _ => by simp at h
  | a :: b :: l, 0, x, y, hb, h, k => by
    simp at h k
    subst h k
    simp [boxish] at hb
    exact ⟨fun e => hb.2.1.elim (fun h => h e.1) (fun h => h e.2), fun e => hb.2.2.1.elim (fun h => h e.1) (fun h => h e.2)⟩
  | a :: b :: l, i + 1, x, y, hb, h, k => by
    simp [boxish] at hb
    exact boxish_two (l := b :: l) hb.2.2.2 (by simpa using h) (by simpa using k)
/-- the cells of a row that began in a block -/
theorem cells_in {w : World} {a : Addr} {xs : List Value} (h : ∀ j u, xs[j]? = some u → w.cell? (a.add j) = some u) {cs : List Value} {T : TypeId} {fr : Nat × Nat} (hg : w.heap[a.block]? = some (.cells cs.toArray T fr)) {j : Nat} {u : Value} (hj : xs[j]? = some u) : cs[a.off + j]? = some u := by
  have h1 := h j u hj
  unfold World.cell? at h1
  rw [add_block, hg] at h1
  simp only at h1
  split at h1
  · cases h1
  · have : (a.add j).off = a.off + j := by unfold Addr.add; split <;> simp_all
    rw [this] at h1
    simpa using h1
/-- what was there is there, but for one block -/
def But (g : Nat) (w w' : World) : Prop := ∀ (k : Nat) (o : Obj), k ≠ g → w.heap[k]? = some o → w'.heap[k]? = some o
theorem But.cells {w w' : World} {g : Nat} (hb : But g w w') {A : Option Addr} {xs : List Value} (h : Cells w A xs) (hp : xs ≠ [] → ∀ a, A = some a → a.block ≠ g) : Cells w' A xs := fun hn => by
  obtain ⟨a, ha, hc⟩ := h hn
  refine ⟨a, ha, fun j u hj => ?_⟩
  have h1 := hc j u hj
  have h2 := h1
  unfold World.cell? at h2
  rw [add_block] at h2
  cases ho : w.heap[a.block]? with
  | none => rw [ho] at h2; cases h2
  | some o =>
    rw [World.cell?_of_block (w := w) (by rw [add_block, hb _ _ (hp hn a ha) ho, ho])]
    exact h1
theorem But.setCell (w : World) (g i : Nat) (u : Value) : But g w (w.setCell ⟨g, i, none⟩ u) := fun k o hk ho => (Below.heap_setCell _ _ _ _ hk).trans ho
theorem But.trans {g : Nat} {a b c : World} (h : But g a b) (k : But g b c) : But g a c := fun x o hx ho => k x o hx (h x o hx ho)
theorem But.all (g : Nat) : ∀ (vs : List Value) (i : Nat) (w : World), But g w (setAll g i vs w) := fun vs i w k o hk ho => (setAll_other hk vs i w).trans ho
theorem But.exts {g : Nat} {w w' : World} (h : SB.ExtS [g] w.drew w') : But g w w' := fun _ _ hk ho => h.heap ho (by simpa using hk)
theorem boxes4 (w : World) (o0 o1 o2 o3 : Obj) :
    Ext w ((((w.alloc o0).alloc o1).alloc o2).alloc o3) ∧ ((((w.alloc o0).alloc o1).alloc o2).alloc o3).heap[w.heap.size]? = some o0 ∧ ((((w.alloc o0).alloc o1).alloc o2).alloc o3).heap[w.heap.size + 1]? = some o1 ∧
      ((((w.alloc o0).alloc o1).alloc o2).alloc o3).heap[w.heap.size + 1 + 1]? = some o2 ∧ ((((w.alloc o0).alloc o1).alloc o2).alloc o3).heap[w.heap.size + 1 + 1 + 1]? = some o3 := by
  refine ⟨((((Below.refl _ w).alloc (Nat.le_refl _) _).alloc (by simp) _).alloc (by simp; omega) _).alloc (by simp; omega) _, ?_, ?_, ?_, ?_⟩
  · rw [Below.heap_alloc _ _ _ (by first | (simp; omega) | simp), Below.heap_alloc _ _ _ (by first | (simp; omega) | simp), Below.heap_alloc _ _ _ (by first | (simp; omega) | simp)]
    simpa using heap_alloc_new w o0
  · rw [Below.heap_alloc _ _ _ (by first | (simp; omega) | simp), Below.heap_alloc _ _ _ (by first | (simp; omega) | simp)]
    simpa using heap_alloc_new (w.alloc o0) o1
  · rw [Below.heap_alloc _ _ _ (by first | (simp; omega) | simp)]
    simpa using heap_alloc_new ((w.alloc o0).alloc o1) o2
  · simpa using heap_alloc_new (((w.alloc o0).alloc o1).alloc o2) o3
theorem boxes5 (w : World) (o0 o1 o2 o3 o4 : Obj) :
    Ext w (((((w.alloc o0).alloc o1).alloc o2).alloc o3).alloc o4) ∧ (((((w.alloc o0).alloc o1).alloc o2).alloc o3).alloc o4).heap[w.heap.size]? = some o0 ∧ (((((w.alloc o0).alloc o1).alloc o2).alloc o3).alloc o4).heap[w.heap.size + 1]? = some o1 ∧
      (((((w.alloc o0).alloc o1).alloc o2).alloc o3).alloc o4).heap[w.heap.size + 1 + 1]? = some o2 ∧ (((((w.alloc o0).alloc o1).alloc o2).alloc o3).alloc o4).heap[w.heap.size + 1 + 1 + 1]? = some o3 ∧ (((((w.alloc o0).alloc o1).alloc o2).alloc o3).alloc o4).heap[w.heap.size + 1 + 1 + 1 + 1]? = some o4 := by
  obtain ⟨h, h0, h1, h2, h3⟩ := boxes4 w o0 o1 o2 o3
  have hx : Ext ((((w.alloc o0).alloc o1).alloc o2).alloc o3) (((((w.alloc o0).alloc o1).alloc o2).alloc o3).alloc o4) := (Below.refl _ _).alloc (Nat.le_refl _) _
  exact ⟨h.trans hx, heap_ext h0 hx, heap_ext h1 hx, heap_ext h2 hx, heap_ext h3 hx, by simpa using heap_alloc_new ((((w.alloc o0).alloc o1).alloc o2).alloc o3) o4⟩
/-- a row of words of the call's own -/
theorem info_u64w : (Try.prog.info? 26).map (fun i => (i.zero, i.size, i.bytes)) = some (some (.int .u64 0), 1, 8) := by kernel_rfl
def OwnW (w : World) (base g c : Nat) (l : List Int) : Prop := w.ownsRow base 26 1 (.slice (some ⟨g, 0, none⟩) l.length c) l.length (wordsOf l)
theorem OwnW.base {w : World} {base g c : Nat} {l : List Int} (h : OwnW w base g c l) : base ≤ g ∧ g < w.heap.size := World.ownsRow.lt h g rfl
theorem OwnW.kept {w w' : World} {base g c : Nat} {l : List Int} (h : OwnW w base g c l) (hk : w'.heap[g]? = w.heap[g]?) : OwnW w' base g c l := by
  refine ⟨h.1, ?_⟩
  rcases h.2 with ⟨e, _⟩ | ⟨g', cap, cur, h3, h4, h5, h6⟩
  · cases e
  · have : g' = g := by have := (Value.slice.inj h3).1; simpa using this.symm
    subst this
    exact .inr ⟨g', cap, cur, h3, h4, hk.trans h5, h6⟩
theorem OwnW.at {w : World} {base g c : Nat} {l : List Int} (h : OwnW w base g c l) {i : Nat} (hi : i < l.length) :
    w.cell? ⟨g, i, none⟩ = some (.int .u64 (l.getD i 0)) ∧ w.frozen? ⟨g, i, none⟩ = false := by
  rcases h.2 with ⟨e, _⟩ | ⟨g', cap, cur, h3, h4, h5, h6, h7, h8, h9⟩
  · cases e
  · have : g' = g := by have := (Value.slice.inj h3).1; simpa using this.symm
    subst this
    have h1 : (wordsOf l)[i]? = some (.int .u64 (l.getD i 0)) := by simp [wordsOf, hi]
    rw [← h9, List.getElem?_take_of_lt (by omega)] at h1
    exact ⟨by simp [World.cell?, h5]; simpa using h1, by simp [World.frozen?, h5]⟩
theorem OwnW.set {w : World} {base g c : Nat} {l : List Int} (h : OwnW w base g c l) (i : Nat) (z : Int) : OwnW (w.setCell ⟨g, i, none⟩ (.int .u64 z)) base g c (l.set i z) := by
  refine ⟨by simp [wordsOf], ?_⟩
  rcases h.2 with ⟨e, _⟩ | ⟨g', cap, cur, h3, h4, h5, h6, h7, h8, h9⟩
  · cases e
  · have : g' = g := by have := (Value.slice.inj h3).1; simpa using this.symm
    subst this
    refine .inr ⟨g', cap, cur.setIfInBounds i (.int .u64 z), by simpa using h3, h4, heap_setCell_at h5, by simpa using h6, h7, by simpa using h8, ?_⟩
    rw [show wordsOf (l.set i z) = (wordsOf l).set i (.int .u64 z) by simp [wordsOf, List.map_set]]
    rw [← h9]
    simp [List.take_set]
theorem OwnW.v {w : World} {base g c : Nat} {l : List Int} (h : OwnW w base g c l) (hr : ∀ z ∈ l, 0 ≤ z ∧ z < 18446744073709551616) : WordsV w (some ⟨g, 0, none⟩) l.length c l := by
  obtain ⟨A, c', e, h1, h2, h3, h4, h5⟩ := own_form h
  cases e
  exact ⟨rfl, h1, h2, h3, h4, hr⟩
set_option maxRecDepth 100000 in
set_option maxHeartbeats 1000000 in
/-- slices.Clone of words -/
theorem clone_words (A : Option Addr) (n c : Nat) (l : List Int) (w : World) (hA : WordsV w A n c l) (hn : n ≤ 1000000) (h0 : 0 < n) :
    Calls Try.prog 80 #[.slice A n c] w fun e w' => ∃ g c', e = .returned (.slice (some ⟨g, 0, none⟩) n c') ∧ OwnW w' w.heap.size g c' l ∧ Ext w w' := by
  obtain ⟨i0, hi0, hz0, hz1, hz2⟩ := info_parts info_u64w
  have hbs : ∀ W : World, (Instr.buildSlice 23 0 #[]).run Try.prog W = .ok (.slice (some ⟨W.heap.size, 0, none⟩) 0 0) (W.alloc (.cells #[] 26)) := fun _ => by kernel_rfl
  have hnil := fun (W : World) (A : Option Addr) (n c : Nat) => Go.run_eql_slice_nil (P := Try.prog) W 23 26 A n c Try.underlying23
  have hlen := hA.len
  rcases A with _ | a
  · obtain ⟨rfl, rfl⟩ := hA.none0 rfl
    omega
  · have hW : Ext w (w.alloc (.cells #[] 26)) := (Below.refl _ w).alloc (Nat.le_refl _) _
    have hown0 : (w.alloc (.cells #[] 26)).ownsRow w.heap.size 26 1 (.slice (some ⟨w.heap.size, 0, none⟩) 0 0) 0 [] :=
      ⟨by simp, .inr ⟨_, 0, #[], rfl, Nat.le_refl _, heap_alloc_new w _, Nat.le_refl _, Nat.zero_le _, by simp, by simp⟩⟩
    go_enter Try.func80, Try.ntmps80
    go_wp2_with (at_builtin; refine wpList_append_own_any rfl (.tmp 5) (.tmp 6) _ _ rfl w.heap.size i0 _ 1 8 Try.underlying23 hi0 hz0 hz1 hz2 rfl (by decide) _ 0 [] rfl hown0 (some a) n c (wordsOf l) rfl (by rw [wordsOf_length, hlen]; omega) (hA.cells.ext hW) hA.none0 (wordsOf_one l) (by simp only [maxLen]; omega) (by omega) (by simp) ?_; intro v1 w1 hown1 hb1)
    try simp only [Nat.zero_add, List.nil_append] at hown1
    have hX := Below.trans hW hb1
    rcases hown1.2 with ⟨rfl, h⟩ | ⟨g, cap, cur, rfl, h4⟩
    · omega
    · go_ret
      subst hlen
      exact ⟨g, cap, rfl, hown1, hX⟩
section
variable {w w' : World} {g : Nat} {cs : List Value} {T : TypeId} {fr : Nat × Nat}
theorem WordsV.but {A : Option Addr} {n c : Nat} {l : List Int} (h : WordsV w A n c l) (hl : 2 ≤ l.length) (hb : But g w w') (hg : w.heap[g]? = some (.cells cs.toArray T fr)) (hx : boxish cs = true) : WordsV w' A n c l := by
  refine ⟨h.len, h.le, h.cap, h.nil, hb.cells h.cells fun hn a ha e => ?_, h.rng⟩
  obtain ⟨a', ha', hc⟩ := h.cells hn
  obtain rfl : a = a' := Option.some.inj (ha.symm.trans ha')
  subst e
  have h0 : (wordsOf l)[0]? = some (.int .u64 (l[0]'(by omega))) := by simp [wordsOf]
  have h1 : (wordsOf l)[1]? = some (.int .u64 (l[1]'(by omega))) := by simp [wordsOf]
  exact (boxish_two hx (cells_in hc hg h0) (cells_in hc hg h1)).2 ⟨rfl, rfl⟩
theorem BytesV.but {A : Option Addr} {n c : Nat} {l : List UInt8} (h : BytesV w A n c l) (hb : But g w w') (hg : w.heap[g]? = some (.cells cs.toArray T fr)) (hx : boxish cs = true) : BytesV w' A n c l := by
  refine ⟨h.len, h.le, h.cap, h.nil, hb.cells h.cells fun hn a ha e => ?_⟩
  obtain ⟨a', ha', hc⟩ := h.cells hn
  obtain rfl : a = a' := Option.some.inj (ha.symm.trans ha')
  subst e
  match l, hn with
  | [], hn => exact absurd rfl hn
  | x :: l, hn => exact boxish_one hx (cells_in hc hg (j := 0) (u := .int .u8 (x.toNat : Int)) rfl) rfl
theorem RowV.but {A : Option Addr} {n c : Nat} {l : List St} (h : RowV w A n c l) (hb : But g w w') (hg : w.heap[g]? = some (.cells cs.toArray T fr)) (hx : boxish cs = true) : RowV w' A n c l := by
  refine ⟨h.len, h.le, h.cap, h.nil, hb.cells h.cells fun hn a ha e => ?_, fun s hs => BytesV.but (h.ok s hs) hb hg hx⟩
  obtain ⟨a', ha', hc⟩ := h.cells hn
  obtain rfl : a = a' := Option.some.inj (ha.symm.trans ha')
  subst e
  match l, hn with
  | [], hn => exact absurd rfl hn
  | x :: l, hn => exact (boxish_two hx (cells_in hc hg (j := 0) (u := .slice x.D x.q x.cd) rfl) (cells_in hc hg (j := 1) (u := .int .i64 x.k) rfl)).1 ⟨rfl, rfl⟩
theorem DkK.but {v : Value} {R : Int} {n : Nat} {K0 K1 : List Key} (h : DkK w v R n K0 K1) (hb : But g w w') (hg : w.heap[g]? = some (.cells cs.toArray T fr)) (hx : boxish cs = true) : DkK w' v R n K0 K1 := by
  obtain ⟨l0, l1, ⟨A0, A1, c0, c1, e, h0, h1⟩, k0, k1⟩ := h
  exact ⟨l0, l1, ⟨A0, A1, c0, c1, e, h0.but hb hg hx, h1.but hb hg hx⟩, k0, k1⟩
theorem WldV.but {v : Value} {X : WldK} (h : WldV w v X) (hl : 2 ≤ X.ws.length) (hb : But g w w') (hg : w.heap[g]? = some (.cells cs.toArray T fr)) (hx : boxish cs = true) : WldV w' v X := by
  obtain ⟨A, q, c, A0, A1, c0, c1, e, h1, h2⟩ := h
  exact ⟨A, q, c, A0, A1, c0, c1, e, h1.but hl hb hg hx, h2.but hb hg hx⟩
theorem ResV.but {v : Value} {r : ResK} (h : ResV w v r) (hb : But g w w') (hg : w.heap[g]? = some (.cells cs.toArray T fr)) (hx : boxish cs = true) : ResV w' v r := by
  obtain ⟨B, q, c, e, h1⟩ := h
  exact ⟨B, q, c, e, h1.but hb hg hx⟩
end
end Go.Proofs.Ytennnhfaghdeoaa
