import Derived.WalkKit
import Derived.Below
import Derived.ArgAppend
import Derived.OwnWalk
import Derived.Test.YtennnhfaghdeoaaSure
namespace Go.Proofs.Ytennnhfaghdeoaa
open Go.RowKit

/-! Slices as lists of cells: what is read stays read while what was there stays. -/
def Cells (w : World) (A : Option Addr) (xs : List Value) : Prop := xs ≠ [] → ∃ a, A = some a ∧ ∀ j u, xs[j]? = some u → w.cell? (a.add j) = some u
theorem Ext.new (W : World) (o : Obj) : Ext W (W.alloc o).drew := ((Below.refl _ W).alloc (Nat.le_refl _) _).drew
theorem Cells.nil (w : World) (A : Option Addr) : Cells w A [] := fun h => absurd rfl h
theorem Cells.ext {w w' : World} {A : Option Addr} {xs : List Value} (h : Cells w A xs) (hx : Ext w w') : Cells w' A xs := fun hn =>
  let ⟨a, ha, hc⟩ := h hn
  ⟨a, ha, fun j u hu => hx.cell (hc j u hu)⟩
theorem add_block (a : Addr) (n : Nat) : (a.add n).block = a.block := by unfold Addr.add; split <;> rfl
theorem lt_of_cell {w : World} {p : Addr} {v : Value} (hc : w.cell? p = some v) : p.block < w.heap.size := by
  rcases Nat.lt_or_ge p.block w.heap.size with h' | h'
  · exact h'
  · unfold World.cell? at hc; rw [Array.getElem?_eq_none h'] at hc; cases hc
theorem Cells.lt {w : World} {a : Addr} {xs : List Value} (h : Cells w (some a) xs) (hn : xs ≠ []) : a.block < w.heap.size := by
  obtain ⟨b, hb, hc⟩ := h hn
  injection hb with hb
  subst hb
  have hl : 0 < xs.length := List.length_pos_iff.2 hn
  have := lt_of_cell (hc 0 xs[0] (by simp [hl]))
  rwa [add_block] at this
theorem Cells.set {w : World} {A : Option Addr} {xs : List Value} (h : Cells w A xs) {p : Addr} (hp : xs ≠ [] → ∀ a, A = some a → a.block ≠ p.block) (u : Value) : Cells (w.setCell p u) A xs := fun hn =>
  let ⟨a, ha, hc⟩ := h hn
  ⟨a, ha, fun j v hv => by
    rw [World.cell?_setCell_other w p (a.add j) u (fun e => hp hn a ha (by rw [e, add_block]))]
    exact hc j v hv⟩
theorem Cells.take {w : World} {A : Option Addr} {xs : List Value} (h : Cells w A xs) (n : Nat) : Cells w A (xs.take n) := fun hn =>
  let ⟨a, ha, hc⟩ := h (fun e => hn (by rw [e]; simp))
  ⟨a, ha, fun j u hu => hc j u (by
    rw [List.getElem?_take] at hu
    split at hu
    · exact hu
    · cases hu)⟩

section
variable {P : Program}
theorem run_slice3 (t e : TypeId) (i : TypeInfo) (ht : P.underlying t = some (.slice e)) (hi : P.info? e = some i) (A : Option Addr) (n c h : Nat) (hh : h ≤ c) (w : World) :
    (Instr.slice t (.slice A n c) none (some (.int .i64 (h : Int))) (some (.int .i64 (h : Int)))).run P w = .ok (.slice A h h) w := by
  simp [Instr.slice, run_underlying ht, Instr.sliceBounds, Instr.sliceBound, asIntOf, sizeOf, typeInfo, hi, hh]
  intro _
  cases A <;> simp [Addr.add]
theorem run_slice3' (t e : TypeId) (i : TypeInfo) (ht : P.underlying t = some (.slice e)) (hi : P.info? e = some i) (A : Option Addr) (n c : Nat) (x : Int) (h0 : 0 ≤ x) (hx : x ≤ c) (w : World) :
    (Instr.slice t (.slice A n c) none (some (.int .i64 x)) (some (.int .i64 x))).run P w = .ok (.slice A x.toNat x.toNat) w := by
  obtain ⟨h, rfl⟩ := Int.eq_ofNat_of_zero_le h0
  rw [Int.toNat_natCast]
  exact run_slice3 t e i ht hi A n c h (by omega) w
theorem run_append_same {w : World} (t ty e : TypeId) (i : TypeInfo) (ht : P.underlying t = some (.slice e)) (hi : P.info? e = some i) (A B : Option Addr) (n c : Nat) (hA : A = none → n = 0) :
    (Builtin.append_ #[t, t] ty #[.slice A n n, .slice B 0 c]).run P w = .ok (.slice A n n) w := by
  cases A <;> cases B <;> simp [Builtin.append_, run_underlying ht, sizeOf, typeInfo, hi, Builtin.lenOf, Builtin.firstCells, loadCells, loadCellsFrom, storeCells]

/-- append onto a slice without room: whatever the two are. -/
theorem run_append_full {w : World} (t ty e : TypeId) (i : TypeInfo) (z : Value) (size bytes : Nat) (ht : P.underlying t = some (.slice e)) (hi : P.info? e = some i) (hz : i.zero = some z)
    (hsize : i.size = size) (hby : i.bytes = bytes) (hzs : z.cells.size = size) (hsz : 0 < size)
    (A : Option Addr) (n : Nat) (olds : List Value) (hlo : olds.length = n * size) (hA : Cells w A olds) (hA0 : A = none → n = 0)
    (B : Option Addr) (m c : Nat) (news : List Value) (hl : news.length = m * size) (hB : Cells w B news) (h63 : n + m ≤ maxLen) (hbytes : (n + m) * bytes ≤ 140737488355328) :
    ∃ A' c' w', (Builtin.append_ #[t, t] ty #[.slice A n n, .slice B m c]).run P w = .ok (.slice A' (n + m) c') w' ∧ n + m ≤ c' ∧ c' ≤ maxLen ∧ (A' = none → c' = 0) ∧ Cells w' A' (olds ++ news) ∧ Ext w w' ∧
      ((A' = A ∧ m = 0 ∧ w' = w) ∨ ∃ a', A' = some a' ∧ a'.block = w.heap.size) := by
  rcases Nat.eq_zero_or_pos m with hm | hm
  · subst hm
    have hn : news = [] := List.eq_nil_of_length_eq_zero (by simpa using hl)
    subst hn
    refine ⟨A, n, w, by simpa using run_append_same t ty e i ht hi A B n c hA0, by omega, by omega, hA0, by simpa using hA, Ext.refl _, .inl ⟨rfl, rfl, rfl⟩⟩
  · have hnn : news ≠ [] := fun e => by
      rw [e] at hl
      have := Nat.mul_pos hm hsz
      simp only [List.length_nil] at hl
      omega
    obtain ⟨b, rfl, hb⟩ := hB hnn
    subst hsize
    subst hby
    have hsmall : n + m ≤ 9223372036854775807 := by simp only [maxLen] at h63; omega
    have hmk : ∀ (cur : Array Value), Ext w (w.drew.alloc (.cells cur e)) := fun cur => ((Below.refl _ w).drew).alloc (Nat.le_refl _) _
    have hcells : ∀ (xs : List Value) (rest : Array Value), Cells (w.drew.alloc (.cells (xs.toArray ++ rest) e)) (some ⟨w.heap.size, 0, none⟩) xs := fun xs rest _ =>
      ⟨_, rfl, fun j u hu => by
        have hj : j < xs.length := (List.getElem?_eq_some_iff.1 hu).1
        have h1 : (w.drew.alloc (.cells (xs.toArray ++ rest) e)).heap[w.heap.size]? = some (.cells (xs.toArray ++ rest) e (0, 0)) := heap_alloc_new w.drew _
        have h2 : (⟨w.heap.size, 0, none⟩ : Addr).add j = ⟨w.heap.size, j, none⟩ := by unfold Addr.add; split <;> simp_all
        rw [h2]
        simp only [World.cell?, h1, Option.isSome_none, Bool.false_eq_true, if_false]
        rw [Array.getElem?_append_left (by simpa using hj)]
        simpa using hu⟩
    rcases A with _ | a
    · have hn := hA0 rfl
      subst hn
      have ho : olds = [] := List.eq_nil_of_length_eq_zero (by simpa using hlo)
      subst ho
      have hr := run_append_nil (P := P) w t ty e i z ht hi hz b m c news hl hb hm (by omega) (by simp at hbytes; omega)
      refine ⟨_, _, _, by simpa using hr, ?_, ?_, (by intro h; cases h), ?_, hmk _, .inr ⟨_, rfl, rfl⟩⟩
      · simpa using grownCap_ge w m 0 e
      · exact grownCap_le_maxLen w m 0 e (by simpa using h63)
      · simpa using hcells news _
    · have hge := grownCap_ge w (n + m) n e
      have hcm := grownCap_le_maxLen w (n + m) n e h63
      by_cases hon : olds = []
      · subst hon
        have hn0 : n = 0 := by
          rcases Nat.eq_zero_or_pos n with h | h
          · exact h
          · have := Nat.mul_pos h hsz; simp at hlo; omega
        subst hn0
        have hr := run_append_grow (P := P) w t ty e i z ht hi hz a 0 0 [] (by simp) (fun j v h => by simp at h) b m c news hl hb (by omega) (by omega) (growslice_fits (by omega) hbytes)
        refine ⟨_, _, _, hr, hge, hcm, (by intro h; cases h), ?_, hmk _, .inr ⟨_, rfl, rfl⟩⟩
        simpa using hcells news _
      · obtain ⟨a', ha', hc'⟩ := hA hon
        injection ha' with ha'
        subst ha'
        have hr := run_append_grow (P := P) w t ty e i z ht hi hz a n n olds hlo hc' b m c news hl hb (by omega) (by omega) (growslice_fits (by omega) hbytes)
        refine ⟨_, _, _, hr, hge, hcm, (by intro h; cases h), ?_, hmk _, .inr ⟨_, rfl, rfl⟩⟩
        have := hcells (olds ++ news) (Builtin.zeroCells z.cells (grownCap w (n + m) n e - (n + m)))
        simpa using this

theorem wpList_append_full {ops : Array Oper} {rest : List Oper} {o : Oper} {a : Act} {Q : Exit → Act → World → Prop} {w : World} (hgd : o.guard = none) (s x : Operand) (t e : TypeId)
    (ho : o.op = .call { callee := .builtin .append, args := #[s, x], argTypes := #[t, t] }) (i : TypeInfo) (z : Value) (size bytes : Nat) (ht : P.underlying t = some (.slice e)) (hi : P.info? e = some i) (hz : i.zero = some z)
    (hsize : i.size = size) (hby : i.bytes = bytes) (hzs : z.cells.size = size) (hsz : 0 < size)
    (A : Option Addr) (n : Nat) (olds : List Value) (hs : a.eval s = .slice A n n) (hlo : olds.length = n * size) (hA : Cells w A olds) (hA0 : A = none → n = 0)
    (B : Option Addr) (m c : Nat) (news : List Value) (hx : a.eval x = .slice B m c) (hl : news.length = m * size) (hB : Cells w B news) (h63 : n + m ≤ maxLen) (hbytes : (n + m) * bytes ≤ 140737488355328)
    (h : ∀ A' c' w', n + m ≤ c' → c' ≤ maxLen → (A' = none → c' = 0) → Cells w' A' (olds ++ news) → Ext w w' → ((A' = A ∧ m = 0 ∧ w' = w) ∨ ∃ a', A' = some a' ∧ a'.block = w.heap.size) →
      wpList P ops Q rest (a.put o.dst (.slice A' (n + m) c')) w') : wpList P ops Q (o :: rest) a w := by
  obtain ⟨A', c', w', hrun, h1, h2, h3, h4, h5, h6⟩ := run_append_full (P := P) (w := w) t o.type e i z size bytes ht hi hz hsize hby hzs hsz A n olds hlo hA hA0 B m c news hl hB h63 hbytes
  refine wpList_plain hgd fun _ hK => ?_
  unfold Oper.wp execOp
  simp only [ho, resolve, invoke, builtin, Sem.run_bind, Sem.run_pure, Result.andThen_ok, List.map_toArray, List.map_cons, List.map_nil, hs, hx, hrun]
  exact hK _ _ (h A' c' w' h1 h2 h3 h4 h5 h6)
/-- append onto a row of the call's own, the source whatever. -/
theorem run_append_own_any {w : World} (base : Nat) (t ty e : TypeId) (i : TypeInfo) (z : Value) (size bytes : Nat) (ht : P.underlying t = some (.slice e)) (hi : P.info? e = some i) (hz : i.zero = some z)
    (hsize : i.size = size) (hby : i.bytes = bytes) (hzs : z.cells.size = size) (hsz : 0 < size)
    (v : Value) (n : Nat) (xs : List Value) (hown : w.ownsRow base e size v n xs)
    (B : Option Addr) (m c : Nat) (news : List Value) (hl : news.length = m * size) (hB : Cells w B news) (hB0 : B = none → c = 0 ∧ m = 0) (h1 : ∀ u ∈ news, u.oneCell' = true)
    (h63 : n + m ≤ maxLen) (hbytes : (n + m) * bytes ≤ 140737488355328) (hbase : base ≤ w.heap.size) :
    ∃ v' w', (Builtin.append_ #[t, t] ty #[v, .slice B m c]).run P w = .ok v' w' ∧ w'.ownsRow base e size v' (n + m) (xs ++ news) ∧ Below base w w' ∧ WildR e w w' := by
  rcases B with _ | b
  · obtain ⟨rfl, rfl⟩ := hB0 rfl
    have hn : news = [] := List.eq_nil_of_length_eq_zero (by simpa using hl)
    subst hn
    exact ⟨v, w, run_append_owned_none (P := P) (w := w) base t ty e i size ht hi v n xs hown, by simpa using hown, Below.refl _ _, Nat.le_refl _, fun _ _ _ _ h _ => h⟩
  · have hnews : ∀ j u, news[j]? = some u → w.cell? (b.add j) = some u := fun j u hu => by
      by_cases hn : news = []
      · subst hn; simp at hu
      · obtain ⟨b', hb', hc⟩ := hB hn
        injection hb' with hb'
        subst hb'
        exact hc j u hu
    obtain ⟨v', w', hr, h2, h3, _⟩ := run_append_own (P := P) (w := w) base t ty e i z size bytes ht hi hz hsize hby hzs hsz v n xs hown b m c news hl hnews h1 h63 hbytes hbase
    refine ⟨v', w', hr, h2, (Below.refl base w).grown h3 hbase (fun k hk => (World.ownsRow.lt hown k hk).1), h3.size, fun g c T fr hg hT => ?_⟩
    rw [h3.block g (Array.getElem?_eq_some_iff.1 hg).1 (fun e' => ?_)]
    · exact hg
    · rcases hown.2 with ⟨rfl, _⟩ | ⟨g', cap, cur, rfl, _, h5, _⟩
      · cases e'
      · have : g = g' := by simpa [Value.ownBlock] using e'
        subst this
        rw [h5] at hg
        injection hg with hg
        injection hg with _ hg
        exact hT hg.symm
theorem wpList_append_own_any {ops : Array Oper} {rest : List Oper} {o : Oper} {a : Act} {Q : Exit → Act → World → Prop} {w : World} (hgd : o.guard = none) (s x : Operand) (t e : TypeId)
    (ho : o.op = .call { callee := .builtin .append, args := #[s, x], argTypes := #[t, t] }) (base : Nat) (i : TypeInfo) (z : Value) (size bytes : Nat) (ht : P.underlying t = some (.slice e)) (hi : P.info? e = some i) (hz : i.zero = some z)
    (hsize : i.size = size) (hby : i.bytes = bytes) (hzs : z.cells.size = size) (hsz : 0 < size)
    (v : Value) (n : Nat) (xs : List Value) (hs : a.eval s = v) (hown : w.ownsRow base e size v n xs)
    (B : Option Addr) (m c : Nat) (news : List Value) (hx : a.eval x = .slice B m c) (hl : news.length = m * size) (hB : Cells w B news) (hB0 : B = none → c = 0 ∧ m = 0) (h1 : ∀ u ∈ news, u.oneCell' = true)
    (h63 : n + m ≤ maxLen) (hbytes : (n + m) * bytes ≤ 140737488355328) (hbase : base ≤ w.heap.size)
    (h : ∀ v' w', w'.ownsRow base e size v' (n + m) (xs ++ news) → Below base w w' → wpList P ops Q rest (a.put o.dst v') w') : wpList P ops Q (o :: rest) a w := by
  obtain ⟨v', w', hrun, h2, h3, _⟩ := run_append_own_any (P := P) (w := w) base t o.type e i z size bytes ht hi hz hsize hby hzs hsz v n xs hown B m c news hl hB hB0 h1 h63 hbytes hbase
  refine wpList_plain hgd fun _ hK => ?_
  unfold Oper.wp execOp
  simp only [ho, resolve, invoke, builtin, Sem.run_bind, Sem.run_pure, Result.andThen_ok, List.map_toArray, List.map_cons, List.map_nil, hs, hx, hrun]
  exact hK _ _ (h v' w' h2 h3)
theorem own_form {w : World} {base : Nat} {e : TypeId} {v : Value} {n : Nat} {xs : List Value} (h : w.ownsRow base e 1 v n xs) :
    ∃ A c, v = .slice A n c ∧ n ≤ c ∧ c ≤ maxLen ∧ (A = none → c = 0) ∧ Cells w A xs ∧ ∀ a, A = some a → base ≤ a.block := by
  have hlen := h.1
  rcases h.2 with ⟨rfl, rfl⟩ | ⟨g, cap, cur, rfl, hb, hh, hn, hc, hs, ht⟩
  · have : xs = [] := List.eq_nil_of_length_eq_zero (by simpa using hlen)
    subst this
    exact ⟨none, 0, rfl, Nat.le_refl _, Nat.zero_le _, fun _ => rfl, Cells.nil _ _, fun a ha => by cases ha⟩
  · refine ⟨_, cap, rfl, hn, hc, (by intro h; cases h), fun _ => ⟨_, rfl, h.cells (g := g) rfl⟩, fun a ha => ?_⟩
    injection ha with ha
    subst ha
    exact hb
end
theorem ownsRow_ext {w w' : World} {base : Nat} {e : TypeId} {size : Nat} {v : Value} {n : Nat} {xs : List Value} (h : w.ownsRow base e size v n xs) (hx : Ext w w') : w'.ownsRow base e size v n xs := by
  refine ⟨h.1, ?_⟩
  rcases h.2 with h2 | ⟨g, cap, cur, h3, h4, h5, h6⟩
  · exact .inl h2
  · exact .inr ⟨g, cap, cur, h3, h4, by rw [Below.block hx g (Array.getElem?_eq_some_iff.1 h5).1]; exact h5, h6⟩
theorem op_buildSlice {P : Program} {ρ : Operand → Value} {o : Oper} {w w' : World} {K : Value → World → Prop} {t : TypeId} {len : Nat} {parts : Array (Nat × Operand)} {v : Value}
    (ho : o.op = .buildSlice t len parts) (hr : (Instr.buildSlice t len (parts.map fun (i, x) => (i, ρ x))).run P w = .ok v w') (h : K v w') : runs P ρ o w K := by
  unfold runs execOp
  simp only [ho, Sem.run_bind, Sem.run_pure, hr, Result.andThen_ok]
  exact h
theorem op_append {P : Program} {ρ : Operand → Value} {o : Oper} {w w' : World} {K : Value → World → Prop} {s x : Operand} {t : TypeId} {u y v : Value}
    (ho : o.op = .call { callee := .builtin .append, args := #[s, x], argTypes := #[t, t] }) (hs : ρ s = u) (hx : ρ x = y) (hr : (Builtin.append_ #[t, t] o.type #[u, y]).run P w = .ok v w') (h : K v w') : runs P ρ o w K := by
  subst hs
  subst hx
  unfold runs execOp
  simp only [ho, resolve, invoke, builtin, Sem.run_bind, Sem.run_pure, Result.andThen_ok, List.map_toArray, List.map_cons, List.map_nil, hr]
  exact h
theorem op_alloc {P : Program} {ρ : Operand → Value} {o : Oper} {w : World} {K : Value → World → Prop} {T : TypeId} {z : Value} (ho : o.op = .alloc T) (hz : (zeroValue T).run P w = .ok z w)
    (h : K (.pointer (some ⟨w.heap.size, 0, none⟩)) (w.alloc (.cells z.cells T))) : runs P ρ o w K := by
  have hr : (Instr.alloc T true (.tuple #[])).run P w = .ok (.pointer (some ⟨w.heap.size, 0, none⟩)) (w.alloc (.cells z.cells T)) := by
    simp [Instr.alloc, hz, newVar, newRow, newObj, go_sem]
    rfl
  unfold runs execOp
  simp only [ho, Sem.run_bind, Sem.run_pure, hr, Result.andThen_ok]
  exact h
/-- cells that a block holds otherwise lie in another one -/
theorem Cells.apart {w : World} {A : Option Addr} {xs : List Value} (h : Cells w A xs) {g : Nat} {c : Array Value} {T : TypeId} {fr : Nat × Nat} (hg : w.heap[g]? = some (.cells c T fr)) (hc : ∀ v ∈ xs, v ∉ c) :
    xs ≠ [] → ∀ a, A = some a → a.block ≠ g := fun hn a ha hb => by
  obtain ⟨a', ha', hcell⟩ := h hn
  rw [ha] at ha'
  injection ha' with ha'
  subst ha'
  have hl : 0 < xs.length := List.length_pos_iff.2 hn
  have h1 := hcell 0 xs[0] (by simp [hl])
  have h2 : a.add 0 = a := by simp [Addr.add]
  rw [h2] at h1
  unfold World.cell? at h1
  rw [hb, hg] at h1
  simp only at h1
  split at h1
  · cases h1
  · exact hc xs[0] (List.getElem_mem hl) (Array.mem_of_getElem? h1)
end Go.Proofs.Ytennnhfaghdeoaa
