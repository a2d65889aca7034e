import Derived.Test.YtennnhfaghdeoaaLift
import Derived.Test.YtennnhfaghdeoaaStreamOpen
import Derived.Test.YtennnhfaghdeoaaSlices
import Derived.Test.YtennnhfaghdeoaaAccSame
import Derived.Test.YtennnhfaghdeoaaAccOpen
import Derived.Test.YtennnhfaghdeoaaPlayRows
import Derived.Maps.AppendAt
namespace Go.Proofs.Ytennnhfaghdeoaa
open Go.ChangeShapes Go.WideShapes Go.ChangeAt Go.RowKit

/-! A row of yes and no that came in. -/
structure BoolsV (w : World) (A : Option Addr) (n c : Nat) (bs : List Bool) : Prop where
  len : bs.length = n
  at_ : ∀ i b, bs[i]? = some b → ∃ a, A = some a ∧ w.cell? (a.add i) = some (.bool b)
section
variable {H : Type} {enc : TypeId × Value → H} {w : World} {base : Nat}
set_option maxRecDepth 100000 in
theorem open_boolsv {fuel : Nat} {cs : List Value} {x : DataW H × List MemPlace} (hf : DataW.trod enc Try.prog w base (fun _ => true) true fuel 33 cs = some x) :
    ∃ A n c bs, cs = [.slice A n c] ∧ BoolsV w A n c bs ∧ n ≤ maxLen := by
  obtain ⟨A, n, c, m, e, hn, hc, hA, hi⟩ := open_slice Try.underlying33 hf
  rw [show Try.prog.cellsOf 4 = 1 by kernel_rfl] at hi
  obtain ⟨bs, hl, hp⟩ := list_choose (n := n) (p := fun i b => ∃ a, A = some a ∧ w.cell? (a.add i) = some (.bool b)) (fun i hlt => by
    obtain ⟨a, l, y, ha, hlen, hcell, ht⟩ := hi i hlt
    obtain ⟨b, e, _⟩ := DataW.trod_bool Try.underlying4 ht
    subst e
    exact ⟨b, a, ha, by simpa using hcell 0 _ rfl⟩)
  exact ⟨A, n, c, bs, e, ⟨hl, hp⟩, Nat.le_trans hn hc⟩
set_option maxRecDepth 100000 in
theorem open_bools_arg {b0 : Nat} {v : Value} {d : DataW H} {p : List MemPlace} (hv : Value.okWide Try.prog w .any b0 33 v) (h : DataW.Trod enc Try.prog w base (fun _ => true) true 33 v d p) :
    ∃ A n c bs, v = .slice A n c ∧ BoolsV w A n c bs ∧ n ≤ maxLen := by
  obtain ⟨A0, n0, c0, rfl⟩ := okWide_slice Try.underlying33 hv
  obtain ⟨fuel, hf⟩ := h
  obtain ⟨A, n, c, bs, e, hV, hn⟩ := open_boolsv hf
  simp [Value.cells] at e
  obtain ⟨rfl, rfl, rfl⟩ := e
  exact ⟨_, _, _, bs, rfl, hV, hn⟩
end

open Go.ChangeShapes Go.WideShapes Go.ChangeAt Go.RowKit

/-! What PlaySteps goes on from. -/
theorem turnK_mem {K : List Key} {i : Int} {f : Key → Key} {k : Key} (h : k ∈ turnK K i f) : ∃ k' ∈ K, k = k' ∨ k = f k' := by
  obtain ⟨j, hj⟩ := List.getElem?_of_mem h
  rw [turnK_at] at hj
  obtain ⟨k', hk', rfl⟩ := Option.map_eq_some_iff.1 hj
  refine ⟨k', List.mem_of_getElem? hk', ?_⟩
  split
  · exact .inr rfl
  · exact .inl rfl
def LenK (m : Nat) (K : List Key) : Prop := ∀ k ∈ K, k.1.length + m ≤ 65536
theorem LenK.le {m m' : Nat} {K : List Key} (h : LenK m K) (hm : m' ≤ m) : LenK m' K := fun k hk => by have := h k hk; omega
theorem LenK.turn {m d : Nat} {K : List Key} {i : Int} {f : Key → Key} (h : LenK (m + d) K) (hf : ∀ k, (f k).1.length ≤ k.1.length + d) : LenK m (turnK K i f) := fun k hk => by
  obtain ⟨k', hk', rfl | rfl⟩ := turnK_mem hk
  · have := h _ hk'; omega
  · have := h _ hk'; have := hf k'; omega
theorem LenK.act0 {m d : Nat} {K : List Key} {row i : Int} {f : Key → Key} (h : LenK (m + d) K) (hf : ∀ k, (f k).1.length ≤ k.1.length + d) : LenK m (act0 row i f K) := by
  unfold Proofs.Ytennnhfaghdeoaa.act0; split
  · exact h.turn hf
  · exact h.le (by omega)
theorem LenK.act1 {m d : Nat} {K : List Key} {row i : Int} {f : Key → Key} (h : LenK (m + d) K) (hf : ∀ k, (f k).1.length ≤ k.1.length + d) : LenK m (act1 row i f K) := by
  unfold Proofs.Ytennnhfaghdeoaa.act1; split
  · exact h.turn hf
  · exact h.le (by omega)
theorem LenK.zero {m n : Nat} (hm : m ≤ 65536) : LenK m (List.replicate n ([], 0)) := fun k hk => by
  obtain ⟨_, rfl⟩ := List.mem_replicate.1 hk
  simp; exact hm
theorem appK_len (b : List UInt8) (k : Key) : (appK b k).1.length ≤ k.1.length + b.length := by simp [appK]
theorem synK_len (d : Nat) (k : Key) : (synK k).1.length ≤ k.1.length + d := by simp [synK]
theorem LenK.str0 {R : Int} {n m d : Nat} {me : Int} {A : AccK} {K : List Key} (h : LenK (m + d) K) (hd : A.data.length ≤ d) (hm : m ≤ 65536) : LenK m (strK0 R n me A K) := by
  have ha : ∀ k, (appK A.data k).1.length ≤ k.1.length + d := fun k => Nat.le_trans (appK_len _ _) (by omega)
  unfold strK0
  repeat' split
  · exact h.act0 ha
  · exact h.act0 (synK_len d)
  · unfold clr0; split
    · exact LenK.zero hm
    · exact h.le (by omega)
  · exact h.act0 ha
  · exact h.act0 (synK_len d)
  · exact h.le (by omega)
theorem LenK.str1 {R : Int} {n m d : Nat} {me : Int} {A : AccK} {K : List Key} (h : LenK (m + d) K) (hd : A.data.length ≤ d) (hm : m ≤ 65536) : LenK m (strK1 R n me A K) := by
  have ha : ∀ k, (appK A.data k).1.length ≤ k.1.length + d := fun k => Nat.le_trans (appK_len _ _) (by omega)
  unfold strK1
  repeat' split
  · exact h.act1 ha
  · exact h.act1 (synK_len d)
  · unfold clr1; split
    · exact LenK.zero hm
    · exact h.le (by omega)
  · exact h.act1 ha
  · exact h.act1 (synK_len d)
  · exact h.le (by omega)
/-- what is left of the room behind an access -/
theorem Fit.step {X : WldK} {m d : Nat} {me : Int} {A : AccK} {f : Bool} (h : Fit X (m + d)) (hd : A.data.length ≤ d) (hm : m ≤ 65536) : Fit (doK X me A f) m := by
  have h' : Fit X m := h.le_ (by omega)
  unfold doK
  split
  · split
    · exact h'
    · refine ⟨h.pos, h.le, ?_, h.ws, LenK.str0 h.k0 hd hm, LenK.str1 h.k1 hd hm⟩
      simp only
      unfold strRoot
      split
      · omega
      · exact h.root
  · split
    · split
      · rename_i hl
        exact ⟨h.pos, h.le, h.root, by simp only; rw [hl]; exact h.ws, h'.k0, h'.k1⟩
      · exact h'
    · exact ⟨h.pos, h.le, h.root, by simp only; rw [wordsK_length]; exact h.ws, h'.k0, h'.k1⟩
/-- a world behind so many accesses -/
def stX (X : WldK) (me : Int) (ks : Nat → AccK) (fl : Nat → Bool) : Nat → WldK
  | 0 => X
  | j + 1 => doK (stX X me ks fl j) me (ks j) (fl j)
theorem stX_fit {X : WldK} {me : Int} {ks : Nat → AccK} {fl : Nat → Bool} (h : Fit X 60000) : ∀ (j : Nat), j ≤ 30 → (∀ i, i < j → (ks i).data.length ≤ 100) → Fit (stX X me ks fl j) (60000 - 100 * j)
  | 0, _, _ => h
  | j + 1, hj, hk => by
    have h1 := stX_fit (me := me) (ks := ks) (fl := fl) h j (by omega) fun i hi => hk i (by omega)
    have e : 60000 - 100 * j = 60000 - 100 * (j + 1) + 100 := by omega
    rw [e] at h1
    exact h1.step (hk j (by omega)) (by omega)
/-- results in a row -/
def resCells (l : List Res) : List Value := l.flatMap Res.cells
theorem resCells_append (a b : List Res) : resCells (a ++ b) = resCells a ++ resCells b := by simp [resCells]
theorem resCells_length (l : List Res) : (resCells l).length = l.length * 3 := by
  induction l with
  | nil => rfl
  | cons x l ih => simp only [resCells, List.flatMap_cons, List.length_append, List.length_cons] at *; rw [ih]; simp [Res.cells]; omega
theorem resCells_one (l : List Res) : ∀ u ∈ resCells l, u.oneCell' = true := by
  intro u hu
  obtain ⟨x, _, hx⟩ := List.mem_flatMap.1 hu
  simp only [Res.cells, List.mem_cons, List.not_mem_nil, or_false] at hx
  rcases hx with rfl | rfl | rfl <;> rfl
theorem LogV.of_cells {w : World} {A : Option Addr} {n c : Nat} {l : List Res} (hn : l.length = n) (hs : n ≤ 65536) (h : Cells w A (resCells l)) : LogV w A n c l := by
  refine ⟨hn, hs, fun j r hj => ?_⟩
  have h3 : ∀ k, k < 3 → (resCells l)[j * 3 + k]? = (Res.cells r)[k]? := fun k hk => flat_at Res.cells 3 (fun _ => rfl) l j r hj k hk
  have hne : resCells l ≠ [] := fun e => by
    have h0 := h3 0 (by omega)
    rw [e] at h0
    simp [Res.cells] at h0
  obtain ⟨a, ha, hc⟩ := h hne
  refine ⟨a, ha, ?_, ?_, ?_⟩
  · exact hc _ _ ((h3 0 (by omega)).trans rfl)
  · rw [add_add3]; exact hc _ _ ((h3 1 (by omega)).trans rfl)
  · rw [add_add3]; exact hc _ _ ((h3 2 (by omega)).trans rfl)
theorem ownsRow_kept {w w' : World} {base size : Nat} {e : TypeId} {v : Value} {n : Nat} {xs : List Value} (h : w.ownsRow base e size v n xs) (hk : ∀ g, base ≤ g → w'.heap[g]? = w.heap[g]?) : w'.ownsRow base e size v n xs := by
  refine ⟨h.1, ?_⟩
  rcases h.2 with h2 | ⟨g', cap, cur, h3, h4, h5, h6⟩
  · exact .inl h2
  · exact .inr ⟨g', cap, cur, h3, h4, (hk g' h4).trans h5, h6⟩
theorem ownsRow_nil (w : World) (base size : Nat) (e : TypeId) : w.ownsRow base e size (.slice none 0 0) 0 [] := ⟨by simp, .inl ⟨rfl, rfl⟩⟩
theorem lineEnd_all {l : List Acc} {rs : List Res} {n : Nat} (hn : l.length = n) (h : n ≤ rs.length) : lineEnd l rs = .returned (.tuple #[.agg accZero, .agg (OutN.cells ⟨0, false, n, lineSum rs n⟩), .bool true]) := by
  subst hn
  unfold lineEnd
  rw [if_pos h]
theorem lineEnd_next {l : List Acc} {rs : List Res} {x : Acc} (h : l[rs.length]? = some x) : lineEnd l rs = .returned (.tuple #[.agg x.cells, .agg outZero, .bool false]) := by
  have hl := (List.getElem?_eq_some_iff.1 h).1
  unfold lineEnd
  rw [if_neg (by omega), h]
  rfl
theorem lineSum_more (rs : List Res) (r : Res) : lineSum (rs ++ [r]) rs.length = lineSum rs rs.length := by simp [lineSum]
theorem lineSum_next (rs : List Res) (r : Res) : lineSum (rs ++ [r]) (rs.length + 1) = (lineSum rs rs.length + r.n) % 18446744073709551616 := by
  have h := lineSum_step (rs := rs ++ [r]) (j := rs.length) (R := []) (r := r) (by simp)
  rw [← h, lineSum_more, IntKind.wrap_u64]
theorem asks_lit {x0 x1 x2 x3 : Int} {x4 : Option Addr} {x5 x6 : Nat} {x7 : Option Addr} {x8 x9 : Nat} (w : World) (hx : AccOK w ⟨x0, x1, x2, x3, x4, x5, x6, x7, x8, x9⟩) (hn : x8 ≤ 65536) :
    Calls Try.prog 18 #[.agg #[.int .i64 x0, .int .i64 x1, .int .u64 x2, .int .u64 x3, .slice x4 x5 x6, .slice x7 x8 x9], .agg #[.int .i64 x0, .int .i64 x1, .int .u64 x2, .int .u64 x3, .slice x4 x5 x6, .slice x7 x8 x9]] w fun e w' => e = .returned (.bool true) ∧ Ext w w' :=
  asks_yes ⟨x0, x1, x2, x3, x4, x5, x6, x7, x8, x9⟩ w hx hn
section
variable {H : Type} {enc : TypeId × Value → H} {w : World} {base : Nat}
set_option maxRecDepth 100000 in
theorem open_accsK {fuel : Nat} {cs : List Value} {x : DataW H × List MemPlace} (hf : DataW.trod enc Try.prog w base (fun _ => true) true fuel 22 cs = some x) :
    ∃ A n c l, cs = [.slice A n c] ∧ AccsP w A n c l ∧ ∀ (j : Nat) (x : Acc), l[j]? = some x → ∃ K : AccK, AccV w x.v K := by
  obtain ⟨A, n, c, m, e, hn, hc, hA, hi⟩ := open_slice Try.underlying22 hf
  rw [cellsAccess] at hi
  obtain ⟨l, hl, hp⟩ := list_choose (n := n) (p := fun i x => (∃ a, A = some a ∧ ∀ k v, x.cells[k]? = some v → w.cell? ((a.add (i * 6)).add k) = some v) ∧ (AccOK w x ∧ x.dk ≤ maxLen ∧ x.wk ≤ maxLen) ∧ ∃ K : AccK, AccV w x.v K) (fun i hlt => by
    obtain ⟨a, l, y, ha, hlen, hcell, ht⟩ := hi i hlt
    obtain ⟨x, e, hok⟩ := open_acc hlen ht
    obtain ⟨K, hK⟩ := open_access hlen ht
    refine ⟨x, ⟨a, ha, fun k v hk => ?_⟩, hok, K, ?_⟩
    · rw [addr_add_add]
      refine hcell k v ?_
      rw [e]
      simpa using hk
    · rw [e] at hK
      simpa [Acc.v] using hK)
  exact ⟨A, n, c, l, e, ⟨⟨hl, fun j x hj => (hp j x hj).1⟩, Nat.le_trans hn hc, hn, hA, fun j x hj => (hp j x hj).2.1⟩, fun j x hj => (hp j x hj).2.2⟩
end
/-- the accesses' meanings, one for each -/
theorem accs_choose {w : World} {l : List Acc} (h : ∀ (j : Nat) (x : Acc), l[j]? = some x → ∃ K : AccK, AccV w x.v K) : ∃ ks : Nat → AccK, ∀ (j : Nat) (x : Acc), l[j]? = some x → AccV w x.v (ks j) := by
  have h1 : ∀ j : Nat, ∃ K : AccK, ∀ x : Acc, l[j]? = some x → AccV w x.v K := fun j => by
    cases hj : l[j]? with
    | none => exact ⟨⟨0, 0, 0, 0, [], []⟩, fun x hx => by cases hx⟩
    | some x => obtain ⟨K, hK⟩ := h j x hj; exact ⟨K, fun y hy => by cases hy; exact hK⟩
  exact ⟨fun j => (h1 j).choose, fun j x hx => (h1 j).choose_spec x hx⟩
/-- a world in a place -/
def BoxW (w : World) (g : Nat) (X : WldK) : Prop := ∃ v : Array Value, w.heap[g]? = some (.cells v 32 (0, 0)) ∧ WldV w (.agg v) X
theorem BoxW.ext {w w' : World} {g : Nat} {X : WldK} (h : BoxW w g X) (hx : Ext w w') : BoxW w' g X := let ⟨v, h1, h2⟩ := h; ⟨v, heap_ext h1 hx, h2.ext hx⟩
theorem WldV.form6 {w : World} {v : Value} {X : WldK} (h : WldV w v X) : ∃ (A : Option Addr) (q c : Nat) (B : Option Addr) (b : Nat) (C : Option Addr) (d : Nat), v = .agg #[.int .i64 X.T, .int .i64 X.C, .slice A q c, .int .u64 X.R, .slice B X.n b, .slice C X.n d] := by
  obtain ⟨A, q, c, B, C, b, d, rfl, -, -⟩ := h
  exact ⟨A, q, c, B, b, C, d, rfl⟩
theorem BoxW.form {w : World} {g : Nat} {X : WldK} (h : BoxW w g X) : ∃ (A : Option Addr) (q c : Nat) (B : Option Addr) (b : Nat) (C : Option Addr) (d : Nat), w.heap[g]? = some (.cells #[.int .i64 X.T, .int .i64 X.C, .slice A q c, .int .u64 X.R, .slice B X.n b, .slice C X.n d] 32 (0, 0)) ∧
    WldV w (.agg #[.int .i64 X.T, .int .i64 X.C, .slice A q c, .int .u64 X.R, .slice B X.n b, .slice C X.n d]) X := by
  obtain ⟨v, h1, h2⟩ := h
  obtain ⟨A, q, c, B, b, C, d, e⟩ := h2.form6
  obtain rfl := Value.agg.inj e
  exact ⟨A, q, c, B, b, C, d, h1, h2⟩
theorem accv_len {w : World} {x : Acc} {K : AccK} (h : AccV w x.v K) : K.data.length = x.dk := by
  obtain ⟨D, m, cd, B, q, cb, e, hB, -⟩ := h
  obtain ⟨x0, x1, x2, x3, x4, x5, x6, x7, x8, x9⟩ := x
  simp only [Acc.v, Acc.cells, Value.agg.injEq, Array.mk.injEq, List.cons.injEq, Value.slice.injEq, and_true] at e
  obtain ⟨-, -, -, -, ⟨rfl, rfl, rfl⟩, -⟩ := e
  exact hB.len
theorem cells_heap {w : World} {g : Nat} {cs : List Value} {T : TypeId} {fr : Nat × Nat} (h : w.heap[g]? = some (.cells cs.toArray T fr)) : Cells w (some ⟨g, 0, none⟩) cs := fun _ =>
  ⟨_, rfl, fun j u hj => by rw [add_at]; simp only [World.cell?, h, Option.isSome_none, Bool.false_eq_true, if_false]; simpa using hj⟩
theorem outs_lit {a : Int} {b : Bool} {c d : Int} (w : World) :
    Calls Try.prog 21 #[.agg #[.int .i64 a, .bool b, .int .i64 c, .int .u64 d, .slice none 0 0], .agg #[.int .i64 a, .bool b, .int .i64 c, .int .u64 d, .slice none 0 0]] w fun e w' => e = .returned (.bool true) ∧ Ext w w' :=
  outs_yes ⟨a, b, c, d⟩ w

open Go.RowKit

/-! A row of results of the call's own, its spare part known too: what is laid onto it turns no world. -/
theorem resCells_cons (r : Res) (l : List Res) : resCells (r :: l) = .int .u64 r.n :: .slice r.A r.k r.c :: .bool r.fail :: resCells l := rfl
theorem resCells_take : ∀ (l : List Res) (n : Nat), (resCells l).take (n * 3) = resCells (l.take n)
  | [], n => by simp [resCells]
  | r :: l, 0 => by simp [resCells]
  | r :: l, n + 1 => by
    rw [List.take_succ_cons, resCells_cons, resCells_cons, show (n + 1) * 3 = n * 3 + 1 + 1 + 1 by omega, List.take_succ_cons, List.take_succ_cons, List.take_succ_cons, resCells_take l n]
theorem resCells_drop : ∀ (l : List Res) (n : Nat), (resCells l).drop (n * 3) = resCells (l.drop n)
  | [], n => by simp [resCells]
  | r :: l, 0 => by simp
  | r :: l, n + 1 => by
    rw [List.drop_succ_cons, resCells_cons, show (n + 1) * 3 = n * 3 + 1 + 1 + 1 by omega, List.drop_succ_cons, List.drop_succ_cons, List.drop_succ_cons, resCells_drop l n]
theorem res_boxish : ∀ l : List Res, boxish (resCells l) = true
  | [] => rfl
  | [r] => rfl
  | r :: r' :: l => by
    have h := res_boxish (r' :: l)
    rw [resCells_cons] at h
    rw [resCells_cons, resCells_cons]
    simpa [boxish, kindV] using h
theorem zero_res (k : Nat) : (Builtin.zeroCells #[.int .u64 0, .slice none 0 0, .bool false] k).toList = resCells (List.replicate k ⟨0, none, 0, 0, false⟩) := by
  refine List.ext_getElem? fun x => ?_
  by_cases hx : x < k * 3
  · have h1 : (List.replicate k (⟨0, none, 0, 0, false⟩ : Res))[x / 3]? = some ⟨0, none, 0, 0, false⟩ := by rw [List.getElem?_replicate]; rw [if_pos (by omega)]
    have h2 := flat_at Res.cells 3 (fun _ => rfl) _ (x / 3) _ h1 (x % 3) (Nat.mod_lt _ (by omega))
    rw [show x / 3 * 3 + x % 3 = x by omega] at h2
    rw [resCells, h2]
    have h3 : x % 3 = 0 ∨ x % 3 = 1 ∨ x % 3 = 2 := by omega
    rcases h3 with h3 | h3 | h3 <;> simp [Builtin.zeroCells, Res.cells, h3, hx]
  · rw [List.getElem?_eq_none (by simp [Builtin.zeroCells]; omega), List.getElem?_eq_none (by rw [resCells_length]; simp; omega)]
def ResOwn (w : World) (base : Nat) (v : Value) (n : Nat) (rs : List Res) : Prop :=
  rs.length = n ∧ ((v = .slice none 0 0 ∧ n = 0) ∨ ∃ g cap l, v = .slice (some ⟨g, 0, none⟩) n cap ∧ base ≤ g ∧ w.heap[g]? = some (.cells (resCells l).toArray 51 (0, 0)) ∧ n ≤ cap ∧ cap ≤ maxLen ∧ l.length = cap ∧ l.take n = rs)
theorem ResOwn.nil (w : World) (base : Nat) : ResOwn w base (.slice none 0 0) 0 [] := ⟨rfl, .inl ⟨rfl, rfl⟩⟩
theorem ResOwn.kept {w w' : World} {base : Nat} {v : Value} {n : Nat} {rs : List Res} (h : ResOwn w base v n rs) (hk : ∀ g o, base ≤ g → w.heap[g]? = some o → w'.heap[g]? = some o) : ResOwn w' base v n rs := by
  refine ⟨h.1, ?_⟩
  rcases h.2 with h2 | ⟨g, cap, l, e, hb, hg, h3⟩
  · exact .inl h2
  · exact .inr ⟨g, cap, l, e, hb, hk g _ hb hg, h3⟩
theorem ResOwn.ext {w w' : World} {base : Nat} {v : Value} {n : Nat} {rs : List Res} (h : ResOwn w base v n rs) (hx : Ext w w') : ResOwn w' base v n rs := h.kept fun _ _ _ ho => heap_ext ho hx
theorem ResOwn.log {w : World} {base : Nat} {v : Value} {n : Nat} {rs : List Res} (h : ResOwn w base v n rs) (hn : n ≤ 65536) : ∃ B c, v = .slice B n c ∧ LogV w B n c rs ∧ (B = none → c = 0 ∧ n = 0) ∧ Cells w B (resCells rs) := by
  obtain ⟨hl, h⟩ := h
  rcases h with ⟨rfl, rfl⟩ | ⟨g, cap, l, rfl, hb, hg, h1, h2, h3, rfl⟩
  · have : rs = [] := List.eq_nil_of_length_eq_zero hl
    subst this
    exact ⟨none, 0, rfl, log_nil w, fun _ => ⟨rfl, rfl⟩, Cells.nil _ _⟩
  · have hc : Cells w (some ⟨g, 0, none⟩) (resCells (l.take n)) := fun _ => ⟨_, rfl, fun j u hj => by
      rw [← resCells_take, List.getElem?_take] at hj
      split at hj
      · obtain ⟨a, ha, hc⟩ := cells_heap hg (fun e => by rw [e] at hj; simp at hj)
        cases ha
        exact hc j u hj
      · cases hj⟩
    exact ⟨_, _, rfl, LogV.of_cells hl hn hc, (by intro h; cases h), hc⟩
/-- a world outlasts what may turn but such a row -/
theorem WldV.grown {w w' : World} {base : Nat} {v : Value} {n : Nat} {rs : List Res} (h : ResOwn w base v n rs) (hg : w.grownBy w' v.ownBlock) {x : Value} {X : WldK} (hV : WldV w x X) (hl : 2 ≤ X.ws.length) : WldV w' x X := by
  rcases h.2 with ⟨rfl, _⟩ | ⟨g, cap, l, rfl, _, hh, _⟩
  · exact hV.ext ⟨hg.os, hg.tape, hg.output, hg.size, fun k hk => hg.block k hk (by simp [Value.ownBlock])⟩
  · refine hV.but hl (g := g) (fun k o hk ho => ?_) hh (res_boxish l)
    rw [hg.block k (Array.getElem?_eq_some_iff.1 ho).1 (by simp [Value.ownBlock]; exact hk)]; exact ho
theorem grown_heap {w w' : World} {base : Nat} {v : Value} {n : Nat} {rs : List Res} (h : ResOwn w base v n rs) (hg : w.grownBy w' v.ownBlock) {k : Nat} {o : Obj} (hk : k < base) (ho : w.heap[k]? = some o) : w'.heap[k]? = some o := by
  rw [hg.block k (Array.getElem?_eq_some_iff.1 ho).1 ?_]
  · exact ho
  · rcases h.2 with ⟨rfl, _⟩ | ⟨g, cap, l, rfl, hb, hh, _⟩
    · simp [Value.ownBlock]
    · simp only [Value.ownBlock]; intro e; injection e with e; omega
theorem grown_ext {w0 w w' : World} {base : Nat} {v : Value} {n : Nat} {rs : List Res} (h : ResOwn w base v n rs) (hg : w.grownBy w' v.ownBlock) (h0 : Ext w0 w) (hb : w0.heap.size ≤ base) : Ext w0 w' :=
  ⟨hg.os.trans h0.os, hg.tape.trans h0.tape, hg.output.trans h0.output, Nat.le_trans h0.size hg.size, fun k hk => by
    have h1 : k < w.heap.size := Nat.lt_of_lt_of_le hk h0.size
    obtain ⟨o, ho⟩ : ∃ o, w.heap[k]? = some o := ⟨_, Array.getElem?_eq_getElem h1⟩
    rw [grown_heap h hg (by omega) ho, ← ho]
    exact h0.block k hk⟩
theorem run_append_res {P : Program} {w : World} (base : Nat) (t ty : TypeId) (i : TypeInfo) (ht : P.underlying t = some (.slice 51)) (hi : P.info? 51 = some i) (hz : i.zero = some (.agg #[.int .u64 0, .slice none 0 0, .bool false])) (hsize : i.size = 3) (hby : i.bytes = 40)
    (v : Value) (n : Nat) (rs : List Res) (hown : ResOwn w base v n rs) (a : Addr) (c : Nat) (r : Res) (hnews : ∀ j u, (resCells [r])[j]? = some u → w.cell? (a.add j) = some u) (hn : n + 1 ≤ 1000) (hbase : base ≤ w.heap.size) :
    ∃ v' w', (Builtin.append_ #[t, t] ty #[v, .slice (some a) 1 c]).run P w = .ok v' w' ∧ ResOwn w' base v' (n + 1) (rs ++ [r]) ∧ w.grownBy w' v.ownBlock := by
  have hl1 : (resCells [r]).length = 1 * i.size := by rw [hsize, resCells_length]; rfl
  have h1 := resCells_one [r]
  have hlen : (rs ++ [r]).length = n + 1 := by rw [List.length_append, hown.1]; rfl
  have grown : ∀ (old : Nat), old < n + 1 → ∀ (row : Option Nat),
      ResOwn (w.drew.alloc (.cells ((resCells rs).toArray ++ (resCells [r]).toArray ++ Builtin.zeroCells #[.int .u64 0, .slice none 0 0, .bool false] (grownCap w (n + 1) old 51 - (n + 1))) 51)) base
        (.slice (some ⟨w.heap.size, 0, none⟩) (n + 1) (grownCap w (n + 1) old 51)) (n + 1) (rs ++ [r]) ∧
      w.grownBy (w.drew.alloc (.cells ((resCells rs).toArray ++ (resCells [r]).toArray ++ Builtin.zeroCells #[.int .u64 0, .slice none 0 0, .bool false] (grownCap w (n + 1) old 51 - (n + 1))) 51)) row := by
    intro old ho row
    have hge := grownCap_ge w (n + 1) old 51
    have hcm : grownCap w (n + 1) old 51 ≤ maxLen := grownCap_le_maxLen w (n + 1) old _ (by simp only [maxLen]; omega)
    refine ⟨⟨hlen, .inr ⟨w.heap.size, _, (rs ++ [r]) ++ List.replicate (grownCap w (n + 1) old 51 - (n + 1)) ⟨0, none, 0, 0, false⟩, rfl, hbase, ?_, hge, hcm, ?_, ?_⟩⟩, ⟨rfl, rfl, rfl, by simp, fun k hk _ => heap_alloc_old w.drew _ hk⟩⟩
    · have e : ((resCells rs).toArray ++ (resCells [r]).toArray ++ Builtin.zeroCells #[.int .u64 0, .slice none 0 0, .bool false] (grownCap w (n + 1) old 51 - (n + 1))) = (resCells ((rs ++ [r]) ++ List.replicate (grownCap w (n + 1) old 51 - (n + 1)) ⟨0, none, 0, 0, false⟩)).toArray := by
        rw [resCells_append, resCells_append, ← zero_res]
        simp
      rw [e]
      exact heap_alloc_new w.drew _
    · rw [List.length_append, hlen, List.length_replicate]; omega
    · rw [← hlen]; exact List.take_left
  rcases hown.2 with ⟨rfl, rfl⟩ | ⟨g, cap, l, rfl, hbg, hg, hnc, hcm, hcl, htake⟩
  · have hx : rs = [] := List.eq_nil_of_length_eq_zero hown.1
    subst hx
    have hr := run_append_nil (P := P) w t ty 51 i _ ht hi hz a 1 c (resCells [r]) hl1 hnews (by omega) (by omega) (by rw [hby]; omega)
    have hgr := grown 0 (by omega) (Value.ownBlock (.slice none 0 0))
    simp only [Nat.zero_add, resCells, List.flatMap_nil, Array.empty_append] at hgr hr ⊢
    exact ⟨_, _, hr, hgr.1, hgr.2⟩
  · by_cases hroom : n + 1 ≤ cap
    · have hfit : n * i.size + (resCells [r]).length ≤ (resCells l).toArray.size := by rw [hl1, hsize, List.size_toArray, resCells_length, hcl]; omega
      have hr := run_append_room (P := P) w t ty 51 i ht hi g n cap _ hg a 1 c (resCells [r]) hl1 hnews h1 hroom hfit
      have e : ((resCells l).take (n * i.size) ++ resCells [r] ++ (resCells l).drop (n * i.size + (resCells [r]).length)) = resCells ((rs ++ [r]) ++ l.drop (n + 1)) := by
        rw [hl1, hsize, show n * 3 + 1 * 3 = (n + 1) * 3 by omega, resCells_take, resCells_drop, htake, resCells_append, resCells_append]
      rw [List.toList_toArray, e] at hr
      refine ⟨_, _, hr, ⟨hlen, .inr ⟨g, cap, _, rfl, hbg, setRow_heap w g _ _ _ _ hg, hroom, hcm, ?_, ?_⟩⟩, ⟨rfl, rfl, rfl, by simp, fun k _ hk => setRow_other w g k _ (fun e => hk (by simp [Value.ownBlock, e]))⟩⟩
      · rw [List.length_append, hlen, List.length_drop]; omega
      · rw [← hlen]; exact List.take_left
    · have holds : ∀ j u, (resCells rs)[j]? = some u → w.cell? ((⟨g, 0, none⟩ : Addr).add j) = some u := fun j u hj => by
        rw [← htake, ← resCells_take, List.getElem?_take] at hj
        split at hj
        · obtain ⟨a', ha, hc⟩ := cells_heap hg (fun e => by rw [e] at hj; simp at hj)
          cases ha
          exact hc j u hj
        · cases hj
      have hr := run_append_grow (P := P) w t ty 51 i _ ht hi hz ⟨g, 0, none⟩ n cap (resCells rs) (by rw [hsize, resCells_length, hown.1]) holds a 1 c (resCells [r]) hl1 hnews (by omega) (by omega) (growslice_fits (by omega) (by rw [hby]; omega))
      have hgr := grown cap (by omega) (Value.ownBlock (.slice (some ⟨g, 0, none⟩) n cap))
      exact ⟨_, _, hr, hgr.1, hgr.2⟩
theorem wpList_append_res {P : Program} {ops : Array Oper} {rest : List Oper} {o : Oper} {a : Act} {Q : Exit → Act → World → Prop} {w : World} (hgd : o.guard = none) (s x : Operand) (t : TypeId)
    (ho : o.op = .call { callee := .builtin .append, args := #[s, x], argTypes := #[t, t] }) (base : Nat) (i : TypeInfo) (ht : P.underlying t = some (.slice 51)) (hi : P.info? 51 = some i) (hz : i.zero = some (.agg #[.int .u64 0, .slice none 0 0, .bool false])) (hsize : i.size = 3) (hby : i.bytes = 40)
    (v : Value) (n : Nat) (rs : List Res) (hs : a.eval s = v) (hown : ResOwn w base v n rs) (ad : Addr) (c : Nat) (r : Res) (hx : a.eval x = .slice (some ad) 1 c) (hnews : ∀ j u, (resCells [r])[j]? = some u → w.cell? (ad.add j) = some u) (hn : n + 1 ≤ 1000) (hbase : base ≤ w.heap.size)
    (h : ∀ v' w', ResOwn w' base v' (n + 1) (rs ++ [r]) → w.grownBy w' v.ownBlock → wpList P ops Q rest (a.put o.dst v') w') : wpList P ops Q (o :: rest) a w := by
  obtain ⟨v', w', hr, h2, h3⟩ := run_append_res (P := P) (w := w) base t o.type i ht hi hz hsize hby v n rs hown ad c r hnews hn hbase
  refine wpList_plain hgd fun _ hK => ?_
  unfold Oper.wp execOp
  simp only [ho, resolve, invoke, builtin, Sem.run_bind, Sem.run_pure, Result.andThen_ok, List.map_toArray, List.map_cons, List.map_nil, hs, hx, hr]
  exact hK _ _ (h v' w' h2 h3)
theorem heap_cells {w : World} {g : Nat} {cs : List Value} {T : TypeId} {fr : Nat × Nat} (h : w.heap[g]? = some (.cells cs.toArray T fr)) : ∀ j u, cs[j]? = some u → w.cell? ((⟨g, 0, none⟩ : Addr).add j) = some u := fun j u hj => by
  rw [add_at]; simp only [World.cell?, h, Option.isSome_none, Bool.false_eq_true, if_false]; simpa using hj
end Go.Proofs.Ytennnhfaghdeoaa
