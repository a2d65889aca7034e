import Derived.WalkKit
import Derived.Below
import Derived.KernelRfl
import Derived.Deep.Draws
import Derived.Lib.Hide
namespace Go.Proofs.Ytennnhfaghdeoaa
open Go.RowKit

/-! A region that draws its order, whose operations make memory but turn none that was there: each operation alone, in whatever world behind the region's head. -/

/-- what was there is as it was -/
def Ext (w w' : World) : Prop := Below w.heap.size w w'
theorem Ext.refl (w : World) : Ext w w := Below.refl _ _
theorem Ext.trans {a b c : World} (h : Ext a b) (k : Ext b c) : Ext a c := Below.trans h (Below.mono k h.size)
theorem Ext.cell {w w' : World} (h : Ext w w') {p : Addr} {v : Value} (hc : w.cell? p = some v) : w'.cell? p = some v := by
  have hb : p.block < w.heap.size := by
    rcases Nat.lt_or_ge p.block w.heap.size with h' | h'
    · exact h'
    · unfold World.cell? at hc; rw [Array.getElem?_eq_none h'] at hc; cases hc
  rw [Below.cell h hb]; exact hc
theorem Ext.drawn {w w' : World} (h : Ext w.drew w') : Ext w w' := Below.trans ((Below.refl w.heap.size w).drew) h
theorem Ext.frozen {w w' : World} (h : Ext w w') {p : Addr} (hb : p.block < w.heap.size) : w'.frozen? p = w.frozen? p := Below.frozen h hb

section
variable {P : Program} {ops : Array Oper} {Q : Exit → Act → World → Prop}

def dstOf (ops : Array Oper) (j : Nat) : Option Tmp := (ops[j]?).bind (·.dst)
/-- an operation's row: the slot that it writes, which it waits for, its guard -/
abbrev Row := Option Nat × List Nat × Option (Nat × Bool)
def rowOf (o : Oper) : Row := (o.dst, (o.after.toList.filter (Region.binds .any ·)).map (·.on), o.guard)
def waits (M : List Nat) (k j : Nat) : Bool := (M.getD k 0).testBit j
def edgesMask (M : List Nat) (es : List Nat) : Nat := es.foldl (fun s e => s ||| (2 ^ e ||| M.getD e 0)) 0
def maskOK (M : List Nat) : Nat → List Row → Bool
  | _, [] => true
  | k, r :: rs => (M.getD k 0 == edgesMask M r.2.1) && (r.2.1.all fun e => decide (e < k)) && maskOK M (k + 1) rs
def nodupB : List Nat → Bool
  | [] => true
  | x :: xs => !xs.contains x && nodupB xs
def tailOK (M : List Nat) (n : Nat) : Nat → List Row → Bool
  | _, [] => true
  | k, _ :: rs => (decide (k < n) || (M.getD k 0 &&& (2 ^ k - 1)) == 2 ^ k - 1) && tailOK M n (k + 1) rs
def insideB (S : List Row) (m : Nat) : Bool := S.all fun r => match r.1 with | none => true | some d => decide (d < m)
def sureB (S : List Row) (M : List Nat) (n m : Nat) : Bool :=
  decide (n ≤ S.length) && maskOK M 0 S && nodupB (S.filterMap (·.1)) && tailOK M n 0 S && insideB S m
def dstS (S : List Row) (j : Nat) : Option Tmp := (S[j]?).bind (·.1)

def putAll : List (Nat × Tmp) → (Nat → Value) → Act → Act
  | [], _, a => a
  | (j, d) :: js, xs, a => putAll js xs (a.put (some d) (xs j))
/-- rows of elements of one type alone are written into -/
def WildR (e : TypeId) (w w' : World) : Prop := w.heap.size ≤ w'.heap.size ∧ ∀ (g : Nat) (c : Array Value) (T : TypeId) (fr : Nat × Nat), w.heap[g]? = some (Obj.cells c T fr) → T ≠ e → w'.heap[g]? = some (Obj.cells c T fr)
/-- what holds of an operation's value, in that world and in each that keeps what was there -/
structure Good where
  G : Value → World → Prop
  st : ∀ v w w', G v w → Ext w w' → G v w'
  free : TypeId → Bool
  fr : ∀ e, free e = true → ∀ v w w', G v w → WildR e w w' → G v w'
def Good.of (G : Value → World → Prop) (st : ∀ v w w', G v w → Ext w w' → G v w') : Good := ⟨G, st, fun _ => false, fun _ h => by cases h⟩
/-- one that says nothing of the world -/
def Good.own (G : Value → Prop) : Good := ⟨fun v _ => G v, fun _ _ _ h _ => h, fun _ => true, fun _ _ _ _ _ h _ => h⟩
/-- a box of the region's own, of another type than what is appended to -/
def boxG (T : TypeId) (cs : Array Value) (B : Nat) (v : Value) (w : World) : Prop := ∃ g, v = .pointer (some ⟨g, 0, none⟩) ∧ B ≤ g ∧ w.heap[g]? = some (.cells cs T (0, 0))
def Good.box (T : TypeId) (cs : Array Value) (B : Nat) : Good := ⟨boxG T cs B, fun _ _ _ ⟨g, e, hB, hc⟩ hx => ⟨g, e, hB, by rw [Below.block hx g (Array.getElem?_eq_some_iff.1 hc).1]; exact hc⟩,
  fun e => e != T, fun _ h _ _ _ ⟨g, e, hB, hc⟩ hx => ⟨g, e, hB, hx.2 g _ _ _ hc (by simp only [bne_iff_ne, ne_eq] at h; exact fun q => h q.symm)⟩⟩
def Good.det (e : Value) : Good := ⟨fun v _ => v = e, fun _ _ _ h _ => h, fun _ => true, fun _ _ _ _ _ h _ => h⟩
def Good.any : Good := ⟨fun _ _ => True, fun _ _ _ _ _ => trivial, fun _ => true, fun _ _ _ _ _ _ _ => trivial⟩
/-- a region's rows, their masks, which results say nothing of the world, and which operations write into what the region itself has made -/
structure Cfg where
  S : List Row
  M : List Nat
  F : List Bool
  W : List Nat
  E : TypeId
def alive (C : Cfg) (j c : Nat) : Bool := C.F.getD j true || j == c || waits C.M j c
def good (Gs : List Good) (j : Nat) : Value → World → Prop := (Gs.getD j Good.any).G
def aliveB (C : Cfg) (j : Nat) : Bool := C.W.all fun c => alive C j c
def goods (Gs : List Good) (xs : Nat → Value) (w : World) : List (Nat × Tmp) → Prop
  | [] => True
  | (j, _) :: js => good Gs j (xs j) w ∧ goods Gs xs w js

/-- how operands read: constants as they stand -/
structure Env (ρ : Operand → Value) : Prop where
  const : ∀ v, ρ (.const v) = v
  func : ∀ f, ρ (.func f) = .func (.func f) #[] #[]
  global : ∀ g, ρ (.global g) = .pointer (some ⟨g, 0, none⟩)
/-- one operation is run, or its callee returns -/
def runs (P : Program) (ρ : Operand → Value) (o : Oper) (w : World) (K : Value → World → Prop) : Prop :=
  match (execOp ρ o).run P w with
  | .ok (.value v) w' => K v w'
  | .ok .skip w' => K undef w'
  | .ok (.enter f args) w' => Calls P f args w' fun e w'' => ∃ v, e = .returned v ∧ K v w''
  | _ => False
def guarded (v : Value) (want : Bool) (A B : Prop) : Prop := match v with | .bool b => if b = want then A else B | _ => B
def sureRun (P : Program) (gd : Option (Tmp × Bool)) (ρ : Operand → Value) (o : Oper) (w : World) (K : Value → World → Prop) : Prop :=
  match gd with
  | none => runs P ρ o w K
  | some (d, want) => guarded (ρ (.tmp d)) want (runs P ρ o w K) (K undef w)
def guardOK (S : List Row) (k : Nat) (gd : Option (Tmp × Bool)) : Bool :=
  match S[k]? with
  | none => false
  | some r => match r.2.2, gd with
    | none, none => true
    | some (g, want), some (d, want') => dstS S g == some d && want == want'
    | _, _ => false
def seen (V : Nat → Good) (ρ : Operand → Value) (w : World) : List (Nat × Tmp) → Prop
  | [] => True
  | (j, d) :: js => (V j).G (ρ (.tmp d)) w ∧ seen V ρ w js
def fixed (ρ : Operand → Value) (a0 : Act) : List Tmp → Prop
  | [] => True
  | t :: ts => ρ (.tmp t) = a0.eval (.tmp t) ∧ fixed ρ a0 ts
/-- what is looked at stands there by then: earlier results, and slots that nothing ahead writes -/
def fixOK (M : List Nat) (k : Nat) (t : Tmp) : Nat → List Row → Bool
  | _, [] => true
  | j, r :: rs => (r.1 != some t || j == k || waits M j k) && fixOK M k t (j + 1) rs
def lookB (C : Cfg) (k : Nat) (wild : Bool) (js : List (Nat × Tmp)) (ts : List Tmp) (gd : Option (Tmp × Bool)) : Bool :=
  guardOK C.S k gd && (js.all fun p => waits C.M k p.1 && dstS C.S p.1 == some p.2 && C.W.all fun c => alive C p.1 c || c == k || waits C.M c k) && (ts.all fun t => fixOK C.M k t 0 C.S) && (C.W.contains k == wild)
/-- what an operation may do to the world -/
def stepW (E : TypeId) (wild : Bool) (w0 w w' : World) : Prop := match wild with | true => Below w0.heap.size w w' ∧ WildR E w w' | false => Ext w w'
/-- operation k alone, in whatever world -/
def sureOne (P : Program) (C : Cfg) (V : Nat → Good) (a0 : Act) (w0 : World) (k : Nat) (o : Oper) (G : Good) : Prop :=
  ∃ (wild : Bool) (js : List (Nat × Tmp)) (ts : List Tmp) (gd : Option (Tmp × Bool)), lookB C k wild js ts gd = true ∧
    ∀ w, Ext w0 w → ∀ ρ, Env ρ → seen V ρ w js → fixed ρ a0 ts → sureRun P gd ρ o w fun v w' => stepW C.E wild w0 w w' ∧ G.G v w'
/-- all of them, in the text's order -/
def sureAll (P : Program) (C : Cfg) (V : Nat → Good) (a0 : Act) (w0 : World) : Nat → List Oper → Prop
  | _, [] => True
  | k, o :: rest => sureOne P C V a0 w0 k o (V k) ∧ sureAll P C V a0 w0 (k + 1) rest
/-- what is good at each place -/
def places (V : Nat → Good) : Nat → List Good → Prop
  | _, [] => True
  | k, G :: Gs => V k = G ∧ places V (k + 1) Gs

theorem put_get_same {a : Act} {d : Tmp} (v : Value) (h : d < a.tmps.size) : (a.put (some d) v).tmps[d]? = some v := by simp [Act.put, h]
theorem put_get_ne {a : Act} {d t : Tmp} (v : Value) (h : d ≠ t) : (a.put (some d) v).tmps[t]? = a.tmps[t]? := by simp [Act.put, Array.getElem?_setIfInBounds_ne h]
theorem put_size (a : Act) (d : Option Tmp) (v : Value) : (a.put d v).tmps.size = a.tmps.size := by cases d <;> simp [Act.put]
theorem put_defers (a : Act) (d : Option Tmp) (v : Value) : (a.put d v).defers = a.defers := by cases d <;> rfl

theorem putAll_size : ∀ (js : List (Nat × Tmp)) (xs : Nat → Value) (a : Act), (putAll js xs a).tmps.size = a.tmps.size
  | [], _, _ => rfl
  | (_, _) :: js, xs, a => by rw [putAll, putAll_size js, put_size]
theorem putAll_defers : ∀ (js : List (Nat × Tmp)) (xs : Nat → Value) (a : Act), (putAll js xs a).defers = a.defers
  | [], _, _ => rfl
  | (_, _) :: js, xs, a => by rw [putAll, putAll_defers js, put_defers]
theorem putAll_out : ∀ (js : List (Nat × Tmp)) (xs : Nat → Value) (a : Act) (t : Tmp), (∀ p ∈ js, p.2 ≠ t) → (putAll js xs a).tmps[t]? = a.tmps[t]?
  | [], _, _, _, _ => rfl
  | (j, d) :: js, xs, a, t, h => by rw [putAll, putAll_out js _ _ _ (fun p hp => h p (by simp [hp])), put_get_ne _ (h (j, d) (by simp))]
/-- the slot of one that is put: whatever else is put besides, if they part. -/
theorem putAll_in : ∀ (js : List (Nat × Tmp)) (xs : Nat → Value) (a : Act) (j : Nat) (d : Tmp), (j, d) ∈ js → (∀ p ∈ js, p.2 = d → p.1 = j) → d < a.tmps.size → (putAll js xs a).tmps[d]? = some (xs j)
  | [], _, _, _, _, h, _, _ => by cases h
  | (i, e) :: js, xs, a, j, d, h, hu, hd => by
    rw [putAll]
    by_cases hin : (j, d) ∈ js
    · exact putAll_in js xs _ j d hin (fun p hp => hu p (by simp [hp])) (by rw [put_size]; exact hd)
    · have he : (j, d) = (i, e) := by
        rcases List.mem_cons.1 h with h | h
        · exact h
        · exact absurd h hin
      obtain ⟨rfl, rfl⟩ := Prod.mk.inj he
      rw [putAll_out js _ _ _ (fun p hp hpd => hin (by
        have := hu p (by simp [hp]) hpd
        obtain ⟨p1, p2⟩ := p
        simp only at this hpd
        subst this; subst hpd
        exact hp)), put_get_same _ hd]

theorem goods_mem {Gs : List Good} {xs : Nat → Value} {w : World} : ∀ {js : List (Nat × Tmp)}, (∀ p ∈ js, good Gs p.1 (xs p.1) w) → goods Gs xs w js
  | [], _ => trivial
  | p :: js, h => ⟨h p (by simp), goods_mem fun q hq => h q (by simp [hq])⟩

theorem goods_get {Gs : List Good} {xs : Nat → Value} {w : World} : ∀ {js : List (Nat × Tmp)}, goods Gs xs w js → ∀ {i : Nat} {j : Nat} {d : Tmp}, js[i]? = some (j, d) → good Gs j (xs j) w
  | [], _, i, j, d, h => by simp at h
  | (j0, d0) :: js, hg, i, j, d, h => by
    cases i with
    | zero =>
      obtain ⟨rfl, rfl⟩ : j0 = j ∧ d0 = d := by simpa using h
      exact hg.1
    | succ i => exact goods_get hg.2 (i := i) (j := j) (d := d) (by simpa using h)

structure SureInv (C : Cfg) (ops : Array Oper) (Gs : List Good) (a0 : Act) (w0 : World) (n : Nat) (listed : Array Bool) (a : Act) (w : World) : Prop where
  size : listed.size = ops.size
  closed : ∀ j oj, ops[j]? = some oj → listed.getD j false = true → ∀ e ∈ oj.after, Region.binds .any e = true → listed.getD e.on false = true
  tail : ∀ t, n ≤ t → listed.getD t false = false
  ext : Ext w0 w
  defers : a.defers = a0.defers
  tsize : a.tmps.size = a0.tmps.size
  frame : ∀ t, (∀ j, listed.getD j false = true → dstOf ops j ≠ some t) → a.tmps[t]? = a0.tmps[t]?
  good : ∀ j, listed.getD j false = true → (∀ c, c ∈ C.W → listed.getD c false = true → alive C j c = true) → ∃ v, (∀ d, dstOf ops j = some d → a.tmps[d]? = some v) ∧ good Gs j v w

theorem edges_bit {M : List Nat} {j : Nat} : ∀ (es : List Nat) (s : Nat), (es.foldl (fun s e => s ||| (2 ^ e ||| M.getD e 0)) s).testBit j = true → s.testBit j = true ∨ ∃ e ∈ es, e = j ∨ waits M e j = true
  | [], _, h => .inl h
  | e :: es, s, h => by
    rcases edges_bit es _ h with h | ⟨e', he', h⟩
    · simp only [Nat.testBit_or, Bool.or_eq_true, Nat.testBit_two_pow, decide_eq_true_eq] at h
      rcases h with h | h | h
      · exact .inl h
      · exact .inr ⟨e, by simp, .inl h⟩
      · exact .inr ⟨e, by simp, .inr h⟩
    · exact .inr ⟨e', by simp [he'], h⟩
theorem mask_spec {M : List Nat} : ∀ (S : List Row) (k0 : Nat), maskOK M k0 S = true → ∀ k r, S[k]? = some r → (∀ e ∈ r.2.1, e < k0 + k) ∧ ∀ j, waits M (k0 + k) j = true → ∃ e ∈ r.2.1, e = j ∨ waits M e j = true
  | [], _, _, k, r, h => by simp at h
  | x :: S, k0, hB, k, r, h => by
    simp only [maskOK, Bool.and_eq_true, beq_iff_eq] at hB
    obtain ⟨⟨h1, h2⟩, h3⟩ := hB
    cases k with
    | zero =>
      obtain rfl : x = r := by simpa using h
      refine ⟨fun e he => by simpa using List.all_eq_true.1 h2 e he, fun j hj => ?_⟩
      unfold waits at hj
      rw [Nat.add_zero, h1] at hj
      rcases edges_bit _ _ hj with h | h
      · simp at h
      · exact h
    | succ k =>
      have := mask_spec S (k0 + 1) h3 k r (by simpa using h)
      rw [show k0 + (k + 1) = k0 + 1 + k by omega]
      exact this
theorem nodup_spec : ∀ {l : List Nat}, nodupB l = true → l.Nodup
  | [], _ => List.nodup_nil
  | x :: xs, h => by
    simp only [nodupB, Bool.and_eq_true, Bool.not_eq_true', List.contains_eq_mem, decide_eq_false_iff_not] at h
    exact List.nodup_cons.2 ⟨h.1, nodup_spec h.2⟩
theorem dst_apart : ∀ {S : List Row}, (S.filterMap (·.1)).Nodup → ∀ i j d, i < j → dstS S i = some d → dstS S j ≠ some d
  | [], _, i, j, d, _, hi => by simp [dstS] at hi
  | r :: S, hn, i, j, d, hij, hi => by
    obtain ⟨j', rfl⟩ : ∃ j', j = j' + 1 := ⟨j - 1, by omega⟩
    have htail : (S.filterMap (·.1)).Nodup := by
      rw [List.filterMap_cons] at hn
      split at hn
      · exact hn
      · exact (List.nodup_cons.1 hn).2
    cases i with
    | zero =>
      have hr : r.1 = some d := by simpa [dstS] using hi
      intro hj
      rw [List.filterMap_cons, hr] at hn
      refine (List.nodup_cons.1 hn).1 ?_
      simp only [dstS, List.getElem?_cons_succ] at hj
      obtain ⟨q, hq, hqd⟩ := Option.bind_eq_some_iff.1 hj
      exact List.mem_filterMap.2 ⟨q, List.mem_of_getElem? hq, hqd⟩
    | succ i =>
      have := dst_apart htail i j' d (by omega) (by simpa [dstS] using hi)
      simpa [dstS] using this
theorem tail_spec {M : List Nat} {n : Nat} : ∀ (S : List Row) (k0 : Nat), tailOK M n k0 S = true → ∀ k, k < S.length → n ≤ k0 + k → ∀ i, i < k0 + k → waits M (k0 + k) i = true
  | [], _, _, k, h => by simp at h
  | x :: S, k0, hB, k, h => by
    simp only [tailOK, Bool.and_eq_true, Bool.or_eq_true, decide_eq_true_eq, beq_iff_eq] at hB
    cases k with
    | zero =>
      intro hn i hi
      rcases hB.1 with h1 | h1
      · omega
      · have h2 := congrArg (fun q => Nat.testBit q i) h1
        simp only [Nat.testBit_and, Nat.testBit_two_pow_sub_one] at h2
        rw [Nat.add_zero] at hi ⊢
        simp only [hi, decide_true, Bool.and_true] at h2
        exact h2
    | succ k =>
      intro hn i hi
      have := tail_spec S (k0 + 1) hB.2 k (by simpa using h) (by omega) i (by omega)
      rw [show k0 + (k + 1) = k0 + 1 + k by omega]
      exact this
theorem fix_spec {M : List Nat} {k : Nat} {t : Tmp} : ∀ (S : List Row) (j0 : Nat), fixOK M k t j0 S = true → ∀ j, dstS S j = some t → j0 + j = k ∨ waits M (j0 + j) k = true
  | [], _, _, j, h => by simp [dstS] at h
  | x :: S, j0, hB, j, h => by
    simp only [fixOK, Bool.and_eq_true, Bool.or_eq_true, bne_iff_ne, ne_eq, beq_iff_eq] at hB
    cases j with
    | zero =>
      have hx : x.1 = some t := by simpa [dstS] using h
      rcases hB.1 with (h1 | h1) | h1
      · exact absurd hx h1
      · exact .inl h1
      · exact .inr h1
    | succ j =>
      have := fix_spec S (j0 + 1) hB.2 j (by simpa [dstS] using h)
      rw [show j0 + (j + 1) = j0 + 1 + j by omega]
      exact this

structure SureB (ops : Array Oper) (M : List Nat) (n m : Nat) : Prop where
  le : n ≤ ops.size
  edge : ∀ k o, ops[k]? = some o → ∀ e ∈ o.after, Region.binds .any e = true → e.on < k
  mask : ∀ k o, ops[k]? = some o → ∀ j, waits M k j = true → ∃ e ∈ o.after, Region.binds .any e = true ∧ (e.on = j ∨ waits M e.on j = true)
  apart : ∀ i j d, i ≠ j → dstOf ops i = some d → dstOf ops j ≠ some d
  tail : ∀ k i, n ≤ k → k < ops.size → i < k → waits M k i = true
  inside : ∀ j d, dstOf ops j = some d → d < m

theorem dst_eq {S : List Row} (hS : ops.toList.map rowOf = S) (j : Nat) : dstS S j = dstOf ops j := by
  subst hS
  simp only [dstS, dstOf, List.getElem?_map, Array.getElem?_toList]
  cases ops[j]? <;> rfl
theorem row_at {S : List Row} (hS : ops.toList.map rowOf = S) {j : Nat} {o : Oper} (h : ops[j]? = some o) : S[j]? = some (rowOf o) := by
  subst hS
  simp [List.getElem?_map, h]

theorem waits_listed {M : List Nat} {n m : Nat} (B : SureB ops M n m) {listed : Array Bool}
    (hc : ∀ j oj, ops[j]? = some oj → listed.getD j false = true → ∀ e ∈ oj.after, Region.binds .any e = true → listed.getD e.on false = true) :
    ∀ (k : Nat) (o : Oper), ops[k]? = some o → (∀ e ∈ o.after, Region.binds .any e = true → listed.getD e.on false = true) → ∀ j, waits M k j = true → listed.getD j false = true := by
  intro k
  induction k using Nat.strongRecOn with
  | _ k ih =>
    intro o ho hall j hw
    have hk : k < ops.size := (Array.getElem?_eq_some_iff.1 ho).1
    obtain ⟨e, he, hb, h4⟩ := B.mask k o ho j hw
    have hlt := B.edge k o ho e he hb
    have hl := hall e he hb
    rcases h4 with h4 | h4
    · rw [← h4]; exact hl
    · have hon : e.on < ops.size := by omega
      exact ih e.on hlt ops[e.on] (Array.getElem?_eq_getElem hon) (fun e' he' hb' => hc e.on ops[e.on] (Array.getElem?_eq_getElem hon) hl e' he' hb') j h4
theorem waits_lt {M : List Nat} {n m : Nat} (B : SureB ops M n m) : ∀ {k j : Nat}, k < ops.size → waits M k j = true → j < k := by
  intro k
  induction k using Nat.strongRecOn with
  | _ k ih =>
    intro j hk hw
    obtain ⟨e, he, hb, h4⟩ := B.mask k ops[k] (Array.getElem?_eq_getElem hk) j hw
    have hlt := B.edge k ops[k] (Array.getElem?_eq_getElem hk) e he hb
    rcases h4 with h4 | h4
    · omega
    · have := ih e.on hlt (j := j) (by omega) h4
      omega
theorem listed_waits {M : List Nat} {n m : Nat} (B : SureB ops M n m) {listed : Array Bool} (hs : listed.size = ops.size)
    (hc : ∀ j oj, ops[j]? = some oj → listed.getD j false = true → ∀ e ∈ oj.after, Region.binds .any e = true → listed.getD e.on false = true)
    {k j : Nat} (hk : listed.getD k false = true) (hw : waits M k j = true) : listed.getD j false = true := by
  have hlt : k < ops.size := by
    rcases Nat.lt_or_ge k ops.size with h | h
    · exact h
    · rw [Array.getD_eq_getD_getElem?, Array.getElem?_eq_none (by omega)] at hk; simp at hk
  exact waits_listed B hc k ops[k] (Array.getElem?_eq_getElem hlt) (fun e he hb => hc k ops[k] (Array.getElem?_eq_getElem hlt) hk e he hb) j hw
theorem rep_false (m j : Nat) : (Array.replicate m false).getD j false = false := by
  rcases Nat.lt_or_ge j m with h | h
  · simp [h]
  · simp [h]
theorem in_lt {listed : Array Bool} {j : Nat} (h : listed.getD j false = true) : j < listed.size := by
  rcases Nat.lt_or_ge j listed.size with h' | h'
  · exact h'
  · rw [Array.getD_eq_getD_getElem?, Array.getElem?_eq_none h'] at h; simp at h
theorem getD_alike {listed : Array Bool} {j : Nat} (h : listed.getD j true = false) : listed.getD j false = false := by
  rcases Nat.lt_or_ge j listed.size with h' | h'
  · simp [h'] at h ⊢; exact h
  · simp [Array.getElem?_eq_none h']
theorem dstOf_some {j : Nat} {o : Oper} (h : ops[j]? = some o) : dstOf ops j = o.dst := by simp [dstOf, h]
theorem dstOf_lt {j d : Nat} (h : dstOf ops j = some d) : j < ops.size := by
  unfold dstOf at h
  rcases Nat.lt_or_ge j ops.size with h' | h'
  · exact h'
  · rw [Array.getElem?_eq_none h'] at h; simp at h

theorem sureB_spec {S : List Row} {M : List Nat} {n m : Nat} (hS : ops.toList.map rowOf = S) (h : sureB S M n m = true) : SureB ops M n m := by
  simp only [sureB, Bool.and_eq_true, decide_eq_true_eq] at h
  obtain ⟨⟨⟨⟨h1, h2⟩, h3⟩, h4⟩, h5⟩ := h
  have hlen : S.length = ops.size := by subst hS; simp
  have hm := mask_spec S 0 h2
  have hn := dst_apart (nodup_spec h3)
  refine ⟨by omega, ?_, ?_, ?_, ?_, ?_⟩
  · intro k o ho e he hb
    have := (hm k _ (row_at hS ho)).1 e.on (List.mem_map.2 ⟨e, List.mem_filter.2 ⟨Array.mem_toList_iff.2 he, hb⟩, rfl⟩)
    omega
  · intro k o ho j hw
    obtain ⟨e, he, h6⟩ := (hm k _ (row_at hS ho)).2 j (by rw [Nat.zero_add]; exact hw)
    obtain ⟨e', he', rfl⟩ := List.mem_map.1 he
    obtain ⟨q1, q2⟩ := List.mem_filter.1 he'
    exact ⟨e', Array.mem_toList_iff.1 q1, q2, h6⟩
  · intro i j d hne hi hj
    rw [← dst_eq hS] at hi hj
    rcases Nat.lt_or_ge i j with h | h
    · exact hn i j d h hi hj
    · exact hn j i d (by omega) hj hi
  · intro k i hk hks hi
    have := tail_spec S 0 h4 k (by omega) (by omega) i (by omega)
    rwa [Nat.zero_add] at this
  · intro j d hj
    rw [← dst_eq hS] at hj
    obtain ⟨r, hr, hd⟩ := Option.bind_eq_some_iff.1 hj
    have := List.all_eq_true.1 h5 r (List.mem_of_getElem? hr)
    simpa [hd] using this

theorem act_env (a : Act) : Env a.eval := ⟨fun _ => rfl, fun _ => rfl, fun _ => rfl⟩
theorem act_eval {a : Act} {t : Tmp} {v : Value} (h : a.tmps[t]? = some v) : a.eval (.tmp t) = v := by simp [Act.eval, h]
theorem seen_of {V : Nat → Good} {ρ : Operand → Value} {w : World} : ∀ {js : List (Nat × Tmp)}, (∀ p ∈ js, (V p.1).G (ρ (.tmp p.2)) w) → seen V ρ w js
  | [], _ => trivial
  | p :: js, h => ⟨h p (by simp), seen_of fun q hq => h q (by simp [hq])⟩
theorem fixed_of {a a0 : Act} : ∀ {ts : List Tmp}, (∀ t ∈ ts, a.tmps[t]? = a0.tmps[t]?) → fixed a.eval a0 ts
  | [], _ => trivial
  | t :: ts, h => ⟨by simp only [Act.eval, Array.getD_eq_getD_getElem?, h t (by simp)], fixed_of fun q hq => h q (by simp [hq])⟩
theorem slot_val {a a0 : Act} {t : Tmp} {v : Value} (ha : a = a0) (h : a0.tmps[t]? = some v) : a.eval (.tmp t) = v := by rw [ha]; exact act_eval h

/-- one operation, in whatever state the order has led to -/
theorem sure_step {C : Cfg} {Gs : List Good} {a0 : Act} {w0 : World} {n m : Nat} (S : SureB ops C.M n m) (hS : ops.toList.map rowOf = C.S) (hm : a0.tmps.size = m) (hst : ∀ j v w w', good Gs j v w → Ext w w' → good Gs j v w')
    (hfr : ∀ j, C.F.getD j true = true → ∀ v w w', good Gs j v w → WildR C.E w w' → good Gs j v w')
    {listed : Array Bool} {a : Act} {w : World} (I : SureInv C ops Gs a0 w0 n listed a w) {k : Nat} {o : Oper} (ho : ops[k]? = some o) (hr : k ∈ Region.ready .any ops listed) (hkn : k < n)
    (h1 : sureOne P C (fun j => Gs.getD j Good.any) a0 w0 k o (Gs.getD k Good.any)) :
    wpOp P ops Q k (fun a' w' => SureInv C ops Gs a0 w0 n (listed.setIfInBounds k true) a' w') a w := by
  obtain ⟨hun, o', ho', hall⟩ := mem_ready.1 hr
  have : o' = o := Option.some.inj (ho'.symm.trans ho)
  subst this
  have hks : k < ops.size := (Array.getElem?_eq_some_iff.1 ho).1
  have hkl : k < listed.size := by rw [I.size]; exact hks
  have hunf := getD_alike hun
  have dep : ∀ j, waits C.M k j = true → listed.getD j false = true := fun j hw => waits_listed S I.closed k o' ho hall j hw
  have undep : ∀ j, waits C.M j k = true → listed.getD j false = false := fun j hw => by
    cases hl : listed.getD j false with
    | false => rfl
    | true => exact absurd (listed_waits S I.size I.closed hl hw) (by rw [hunf]; simp)
  obtain ⟨wild, js, ts, gd, hl, h1⟩ := h1
  simp only [lookB, Bool.and_eq_true, beq_iff_eq] at hl
  obtain ⟨⟨⟨hgd, hl1⟩, hl2⟩, hwild⟩ := hl
  have hseen : seen (fun j => Gs.getD j Good.any) a.eval w js := seen_of fun p hp => by
    have h2 := List.all_eq_true.1 hl1 p hp
    simp only [Bool.and_eq_true, beq_iff_eq] at h2
    obtain ⟨h2, h3⟩ := h2
    rw [dst_eq hS] at h2
    obtain ⟨v, hv, hg⟩ := I.good p.1 (dep p.1 h2.1) (fun c hc hlc => by
      have h4 := List.all_eq_true.1 h3 c hc
      simp only [Bool.or_eq_true, beq_iff_eq] at h4
      rcases h4 with (h4 | h4) | h4
      · exact h4
      · rw [h4, hunf] at hlc; cases hlc
      · rw [undep c h4] at hlc; cases hlc)
    rw [act_eval (hv _ h2.2)]
    exact hg
  have hfix : fixed a.eval a0 ts := fixed_of fun t ht => I.frame t fun j hlj hj => by
    have h2 := fix_spec C.S 0 (List.all_eq_true.1 hl2 t ht) j (by rw [dst_eq hS]; exact hj)
    rw [Nat.zero_add] at h2
    rcases h2 with h2 | h2
    · rw [h2, hunf] at hlj; cases hlj
    · rw [undep j h2] at hlj; cases hlj
  have H := h1 w I.ext a.eval (act_env a) hseen hfix
  -- behind it
  have next : ∀ v w', stepW C.E wild w0 w w' ∧ (Gs.getD k Good.any).G v w' → SureInv C ops Gs a0 w0 n (listed.setIfInBounds k true) (a.put o'.dst v) w' := fun v w' ⟨hx, hg⟩ => by
    refine ⟨by simp [I.size], ?_, ?_, by
      cases wild
      · exact I.ext.trans hx
      · exact Below.trans I.ext hx.1, by rw [put_defers]; exact I.defers, by rw [put_size]; exact I.tsize, ?_, ?_⟩
    · intro j oj hj hl e he hb
      by_cases hkj : k = j
      · subst hkj
        have : oj = o' := Option.some.inj (hj.symm.trans ho)
        subst this
        exact getD_set_true (hall e he hb)
      · rw [getD_set_ne false hkj] at hl
        exact getD_set_true (I.closed j oj hj hl e he hb)
    · intro t ht
      rw [getD_set_ne false (by omega)]
      exact I.tail t ht
    · intro t ht
      have hk' : dstOf ops k ≠ some t := ht k (by simp [hkl])
      rw [dstOf_some ho] at hk'
      have h2 : (a.put o'.dst v).tmps[t]? = a.tmps[t]? := by
        cases hd : o'.dst with
        | none => rfl
        | some d => rw [hd] at hk'; exact put_get_ne _ (fun e => hk' (by rw [e]))
      rw [h2]
      exact I.frame t (fun j hl => ht j (getD_set_true hl))
    · intro j hl hlive
      by_cases hkj : k = j
      · subst hkj
        refine ⟨v, fun d hd => ?_, hg⟩
        rw [dstOf_some ho] at hd
        rw [hd]
        exact put_get_same _ (by rw [I.tsize, hm]; exact S.inside k d (by rw [dstOf_some ho]; exact hd))
      · rw [getD_set_ne false hkj] at hl
        obtain ⟨u, hu, hgu⟩ := I.good j hl (fun c hc hlc => hlive c hc (getD_set_true hlc))
        have hgu' : good Gs j u w' := by
          cases wild with
          | false => exact hst j u w w' hgu hx
          | true =>
            have hkW : k ∈ C.W := by simpa using hwild
            have h4 := hlive k hkW (by simp [hkl])
            simp only [alive, Bool.or_eq_true, beq_iff_eq] at h4
            rcases h4 with (h4 | h4) | h4
            · exact hfr j h4 u w w' hgu hx.2
            · exact absurd h4.symm hkj
            · rw [undep j h4] at hl; cases hl
        refine ⟨u, fun d hd => ?_, hgu'⟩
        cases hd' : o'.dst with
        | none => exact hu d hd
        | some d' =>
          rw [put_get_ne _ (fun e => S.apart k j d' hkj (by rw [dstOf_some ho]; exact hd') (by rw [e]; exact hd))]
          exact hu d hd
  have run : runs P a.eval o' w (fun v w' => stepW C.E wild w0 w w' ∧ (Gs.getD k Good.any).G v w') →
      o'.wp P a w (fun a' w' => SureInv C ops Gs a0 w0 n (listed.setIfInBounds k true) a' w') Q := fun H => by
    unfold Oper.wp
    unfold runs at H
    generalize (execOp a.eval o').run P w = r at *
    cases r with
    | ok nx w' =>
      cases nx <;> simp only [Oper.upon] at H ⊢
      case value v => exact next v w' H
      case skip => exact next undef w' H
      case enter f args =>
        refine Calls.mono H fun e w'' he => ?_
        obtain ⟨v, rfl, hv⟩ := he
        exact next v w'' hv
    | halt x w' => exact H.elim
  unfold wpOp
  simp only [ho]
  simp only [guardOK, row_at hS ho, rowOf] at hgd
  cases hg : o'.guard with
  | none =>
    rw [hg] at hgd
    cases gd with
    | some p => simp at hgd
    | none =>
      rw [if_pos (by simp [Region.wanted, hg])]
      exact .inl (run H)
  | some gw =>
    obtain ⟨g, want⟩ := gw
    rw [hg] at hgd
    cases gd with
    | none => simp at hgd
    | some p =>
      obtain ⟨d, want'⟩ := p
      simp only [Bool.and_eq_true, beq_iff_eq] at hgd
      obtain ⟨hd, rfl⟩ := hgd
      rw [dst_eq hS] at hd
      have hdm : d < a.tmps.size := by rw [I.tsize, hm]; exact S.inside g d hd
      have hy : yielded ops a.tmps g = (match a.eval (.tmp d) with | .bool b => some b | _ => none) := by
        unfold yielded
        have hd' : (ops[g]?).bind (·.dst) = some d := hd
        rw [hd']
        simp [Act.eval, hdm]
        cases a.tmps[d] <;> rfl
      simp only [sureRun, guarded] at H
      unfold Region.wanted
      simp only [hg, hy]
      split at H
      · rename_i b hb
        by_cases hbw : b = want
        · rw [if_pos hbw] at H
          rw [if_pos (by simp [hbw])]
          exact .inl (run H)
        · rw [if_neg hbw] at H
          rw [if_neg (by simp [hbw])]
          exact next undef w H
      · rw [if_neg (by simp)]
        exact next undef w H

theorem countP_less {p q : Nat → Bool} {k : Nat} (hp : p k = true) (hq : q k = false) (hs : ∀ j, j ≠ k → q j = p j) : ∀ n, k < n → (List.range n).countP p = (List.range n).countP q + 1
  | 0, h => absurd h (by omega)
  | n + 1, h => by
    rw [List.range_succ, List.countP_append, List.countP_append]
    by_cases hk : k = n
    · subst hk
      have e : (List.range k).countP p = (List.range k).countP q := List.countP_congr fun j hj => by
        rw [hs j (by have := List.mem_range.1 hj; omega)]
      rw [e]
      simp [hp, hq]
    · rw [countP_less hp hq hs n (by omega)]
      have e : q n = p n := hs n (fun e => hk e.symm)
      simp only [List.countP_cons, List.countP_nil, e]
      omega

theorem wpAny_seq {M : List Nat} {n m : Nat} (B : SureB ops M n m) : ∀ (l : List Oper) (k : Nat) (listed : Array Bool) (a : Act) (w : World), n ≤ k → k + l.length = ops.size → (∀ j, l[j]? = ops[k + j]?) →
    listed.size = ops.size → (∀ j, j < k → listed.getD j false = true) → (∀ j, k ≤ j → listed.getD j false = false) → wpList P ops Q l a w → wpAny P .any ops Q l.length listed a w
  | [], k, listed, a, w, _, hlen, _, hs, h1, _, h => by
    refine ⟨?_, h⟩
    cases hr : Region.ready .any ops listed with
    | nil => rfl
    | cons x xs =>
      have hx : x ∈ Region.ready .any ops listed := by rw [hr]; simp
      obtain ⟨hu, o, ho, _⟩ := mem_ready.1 hx
      have hlt : x < ops.size := (Array.getElem?_eq_some_iff.1 ho).1
      have := h1 x (by simp at hlen; omega)
      rw [getD_alike hu] at this
      cases this
  | o :: l, k, listed, a, w, hn, hlen, hl, hs, h1, h2, h => by
    have h0 : ops[k]? = some o := by simpa using (hl 0).symm
    have hk : k < ops.size := (Array.getElem?_eq_some_iff.1 h0).1
    have hkr : k ∈ Region.ready .any ops listed := mem_ready.2 ⟨by
      have := h2 k (Nat.le_refl _)
      have hkl : k < listed.size := by omega
      simp [hkl] at this ⊢; exact this, o, h0, fun e he hb => h1 e.on (B.edge k o h0 e he hb)⟩
    refine ⟨fun h1 => (by rw [h1] at hkr; cases hkr), fun i hi => ?_⟩
    have hik : i = k := by
      obtain ⟨hu, oi, hoi, hall⟩ := mem_ready.1 hi
      have hi' : i < ops.size := (Array.getElem?_eq_some_iff.1 hoi).1
      rcases Nat.lt_trichotomy i k with h | h | h
      · have := h1 i h; rw [getD_alike hu] at this; cases this
      · exact h
      · have hw := B.tail i k (by omega) hi' h
        have := waits_listed B (listed := listed) (fun j oj hj hlj e he hb => by
          have hjk : j < k := by
            rcases Nat.lt_or_ge j k with h' | h'
            · exact h'
            · rw [h2 j h'] at hlj; cases hlj
          exact h1 e.on (Nat.lt_trans (B.edge j oj hj e he hb) hjk)) i oi hoi hall k hw
        rw [h2 k (Nat.le_refl _)] at this
        cases this
    subst hik
    have hw : wpOp P ops Q i (wpList P ops Q l) a w := by unfold wpOp; simp only [h0]; exact h
    have hil : i < listed.size := by omega
    refine wpOp_mono (fun a' w' h' => wpAny_seq B l (i + 1) _ a' w' (by omega) (by simp at hlen; omega) (fun j => by have := hl (j + 1); simpa [Nat.add_assoc, Nat.add_comm 1 j] using this) (by simp [hs]) (fun j hj => ?_) (fun j hj => ?_) h') hw
    · by_cases hji : i = j
      · subst hji; simp [hil]
      · exact getD_set_true (h1 j (by omega))
    · rw [getD_set_ne false (by omega)]; exact h2 j (by omega)

theorem wpAny_sure {C : Cfg} {Gs : List Good} {a0 : Act} {w0 : World} {n m : Nat} (S : SureB ops C.M n m) (hS : ops.toList.map rowOf = C.S) (hm : a0.tmps.size = m) (hst : ∀ j v w w', good Gs j v w → Ext w w' → good Gs j v w')
    (hfr : ∀ j, C.F.getD j true = true → ∀ v w w', good Gs j v w → WildR C.E w w' → good Gs j v w')
    (hone : ∀ k o, k < n → ops[k]? = some o → sureOne P C (fun j => Gs.getD j Good.any) a0 w0 k o (Gs.getD k Good.any))
    (hend : ∀ listed a w, SureInv C ops Gs a0 w0 n listed a w → (∀ i, i < n → listed.getD i false = true) → wpAny P .any ops Q (ops.size - n) listed a w) :
    ∀ (c : Nat) (listed : Array Bool) (a : Act) (w : World), SureInv C ops Gs a0 w0 n listed a w → (List.range n).countP (fun i => !listed.getD i false) = c → wpAny P .any ops Q (c + (ops.size - n)) listed a w
  | 0, listed, a, w, I, hc => by
    rw [Nat.zero_add]
    refine hend listed a w I fun i hi => ?_
    have := List.countP_eq_zero.1 hc i (List.mem_range.2 hi)
    simpa using this
  | c + 1, listed, a, w, I, hc => by
    rw [show c + 1 + (ops.size - n) = (c + (ops.size - n)) + 1 by omega]
    -- the least one that is still to come
    have hex : ∃ i, i < n ∧ listed.getD i false = false ∧ ∀ j, j < i → listed.getD j false = true := by
      have hpos : 0 < (List.range n).countP (fun i => !listed.getD i false) := by omega
      obtain ⟨i, hi, hn⟩ := List.countP_pos_iff.1 hpos
      have key : ∀ i, i < n → listed.getD i false = false → ∃ i, i < n ∧ listed.getD i false = false ∧ ∀ j, j < i → listed.getD j false = true := by
        intro i
        induction i using Nat.strongRecOn with
        | _ i ih =>
          intro h1 h2
          by_cases hall : ∀ j, j < i → listed.getD j false = true
          · exact ⟨i, h1, h2, hall⟩
          · have hne : ∃ j, j < i ∧ listed.getD j false = false := by
              rcases Classical.em (∃ j, j < i ∧ listed.getD j false = false) with h | h
              · exact h
              · exact absurd (fun j hj => by
                  cases hq : listed.getD j false with
                  | true => rfl
                  | false => exact absurd ⟨j, hj, hq⟩ h) hall
            obtain ⟨j, hj, hjf⟩ := hne
            exact ih j hj (by omega) hjf
      exact key i (List.mem_range.1 hi) (by simpa using hn)
    obtain ⟨i, hin, hif, hall⟩ := hex
    have his : i < ops.size := Nat.lt_of_lt_of_le hin S.le
    have hir : i ∈ Region.ready .any ops listed := by
      refine mem_ready.2 ⟨?_, ops[i], Array.getElem?_eq_getElem his, fun e he hb => hall e.on (S.edge i ops[i] (Array.getElem?_eq_getElem his) e he hb)⟩
      · have hil : i < listed.size := by rw [I.size]; exact his
        simp [hil] at hif ⊢; exact hif
    refine ⟨fun h => (by rw [h] at hir; cases hir), fun k hk => ?_⟩
    obtain ⟨hkun, o, ho, hkall⟩ := mem_ready.1 hk
    have hks : k < ops.size := (Array.getElem?_eq_some_iff.1 ho).1
    have hkn : k < n := by
      rcases Nat.lt_or_ge k n with h | h
      · exact h
      · have h2 := waits_listed S I.closed k o ho hkall i (S.tail k i h hks (by omega))
        rw [hif] at h2; cases h2
    refine wpOp_mono (fun a' w' I' => wpAny_sure S hS hm hst hfr hone hend c _ a' w' I' ?_) (sure_step S hS hm hst hfr I ho hk hkn (hone k o hkn ho))
    have hkl : k < listed.size := by rw [I.size]; exact hks
    have h2 := countP_less (p := fun i => !listed.getD i false) (q := fun i => !(listed.setIfInBounds k true).getD i false) (k := k)
      (by simp only [getD_alike hkun, Bool.not_false]) (by simp [hkl]) (fun j hj => by simp only [getD_set_ne false (Ne.symm hj)]) n hkn
    omega

def endPairs (S : List Row) (n : Nat) : List (Nat × Tmp) := (List.range n).filterMap fun j => (dstS S j).map fun d => (j, d)

theorem places_of (Gs : List Good) : ∀ (L : List Good) (k : Nat), (∀ j, L[j]? ≠ none → Gs[k + j]? = L[j]?) → places (fun j => Gs.getD j Good.any) k L
  | [], _, _ => trivial
  | G :: L, k, h => ⟨by
      have := h 0 (by simp)
      simp at this
      simp [this], places_of Gs L (k + 1) fun j hj => by
      have := h (j + 1) (by simpa using hj)
      rw [show k + 1 + j = k + (j + 1) by omega]
      simpa using this⟩
theorem place_from {V : Nat → Good} : ∀ (L : List Good) (k0 : Nat), places V k0 L → ∀ (k : Nat) (G : Good), L[k]? = some G → V (k0 + k) = G
  | [], _, _, k, G, h => by simp at h
  | x :: L, k0, h, k, G, hk => by
    cases k with
    | zero =>
      obtain rfl : x = G := by simpa using hk
      exact h.1
    | succ k =>
      have := place_from L (k0 + 1) h.2 k G (by simpa using hk)
      rw [show k0 + (k + 1) = k0 + 1 + k by omega]
      exact this
theorem place_at {V : Nat → Good} {Gs : List Good} (h : places V 0 Gs) {k : Nat} {G : Good} (hk : Gs[k]? = some G) : V k = G := by
  have := place_from Gs 0 h k G hk
  rwa [Nat.zero_add] at this
theorem sureAll_at {C : Cfg} {V : Nat → Good} {a0 : Act} {w0 : World} : ∀ (r : List Oper) (k0 : Nat), sureAll P C V a0 w0 k0 r → ∀ k o, r[k]? = some o → sureOne P C V a0 w0 (k0 + k) o (V (k0 + k))
  | [], _, _, k, o, h => by simp at h
  | x :: r, k0, h, k, o, hk => by
    cases k with
    | zero =>
      obtain rfl : x = o := by simpa using hk
      exact h.1
    | succ k =>
      have := sureAll_at r (k0 + 1) h.2 k o (by simpa using hk)
      rw [show k0 + (k + 1) = k0 + 1 + k by omega]
      exact this

/-- A REGION THAT DRAWS ITS ORDER. 'pre', one by one, in whatever order; 'tail' behind them all, in the text's order. -/
theorem wp_region_sure {id : Nat} {a0 : Act} {w : World} {l : List Oper} (C : Cfg) (n m : Nat) (js es : List (Nat × Tmp)) (Gs : List Good) (hmix : P.follows .mixedOrders = true)
    (hS : l.map rowOf = C.S) (hB : sureB C.S C.M n m = true) (hm : a0.tmps.size = m) (hjs : endPairs C.S n = js) (hes : (js.filter fun p => aliveB C p.1) = es) (hF : Gs.map (fun g => g.free C.E) = C.F)
    (h : ∀ (C' : Cfg) (a' : Act) (V : Nat → Good), C' = C → a' = a0 → places V 0 Gs → sureAll P C' V a' w.drew 0 (l.take n))
    (hend : ∀ (xs : Nat → Value) (w' : World), Ext w.drew w' → goods Gs xs w' es → wpList P l.toArray Q (l.drop n) (putAll js xs a0) w') :
    (Code.region id l.toArray true).wp P Q a0 w := by
  have hS' : l.toArray.toList.map rowOf = C.S := by simpa using hS
  have B := sureB_spec hS' hB
  have hone := sureAll_at (l.take n) 0 (h C a0 (fun j => Gs.getD j Good.any) rfl rfl (places_of Gs Gs 0 (fun j _ => by rw [Nat.zero_add])))
  have hst : ∀ j v w w', good Gs j v w → Ext w w' → good Gs j v w' := fun j v w w' h hx => (Gs.getD j Good.any).st v w w' h hx
  have hone' : ∀ k o, k < n → l.toArray[k]? = some o → sureOne P C (fun j => Gs.getD j Good.any) a0 w.drew k o (Gs.getD k Good.any) := fun k o hk ho => by
    have := hone k o (by rw [List.getElem?_take]; simp [hk]; simpa using ho)
    simpa using this
  have hfr : ∀ j, C.F.getD j true = true → ∀ v w w', good Gs j v w → WildR C.E w w' → good Gs j v w' := fun j hj v w w' hg hx => by
    refine (Gs.getD j Good.any).fr C.E ?_ v w w' hg hx
    rw [← hF] at hj
    rcases Nat.lt_or_ge j Gs.length with h' | h'
    · simp [h'] at hj ⊢; exact hj
    · rw [List.getD_eq_getElem?_getD, List.getElem?_eq_none h']; rfl
  refine wp_region_any hmix ?_
  have I0 : SureInv C l.toArray Gs a0 w.drew n (Array.replicate l.toArray.size false) a0 { w with drawn := w.drawn + 1 } := by
    have hf : ∀ j, (Array.replicate l.toArray.size false).getD j false = false := rep_false _
    refine ⟨by simp, fun j oj _ h => (by rw [hf] at h; cases h), fun t _ => hf t, Ext.refl _, rfl, rfl, fun t _ => rfl, fun j h _ => (by rw [hf] at h; cases h)⟩
  have h := wpAny_sure (Q := Q) B hS' hm hst hfr hone' (fun listed a w' I hall => by
    have hpairs : ∀ p ∈ endPairs C.S n, p.1 < n ∧ dstOf l.toArray p.1 = some p.2 := fun p hp => by
      obtain ⟨j, hj, e⟩ := List.mem_filterMap.1 hp
      obtain ⟨d, hd, rfl⟩ := Option.map_eq_some_iff.1 e
      rw [dst_eq hS'] at hd
      exact ⟨List.mem_range.1 hj, hd⟩
    let xs : Nat → Value := fun j => match dstOf l.toArray j with | some d => a.tmps.getD d undef | none => undef
    have hxv : ∀ j d, dstOf l.toArray j = some d → a.tmps[d]? = some (xs j) := fun j d hj => by
      have hd : d < a.tmps.size := by rw [I.tsize, hm]; exact B.inside j d hj
      simp only [xs, hj, Array.getD_eq_getD_getElem?, Array.getElem?_eq_getElem hd, Option.getD_some]
    have hxs : ∀ j d, dstOf l.toArray j = some d → listed.getD j false = true → aliveB C j = true → good Gs j (xs j) w' := fun j d hj hl ha => by
      obtain ⟨v, hv, hg⟩ := I.good j hl (fun c hc _ => List.all_eq_true.1 ha c hc)
      have h2 := hv d hj
      have h3 : xs j = v := Option.some.inj ((hxv j d hj).symm.trans h2)
      rw [h3]
      exact hg
    have hgoods : goods Gs xs w' es := goods_mem fun p hp => by
      rw [← hes, ← hjs] at hp
      obtain ⟨hp, hal⟩ := List.mem_filter.1 hp
      obtain ⟨h1, h2⟩ := hpairs p hp
      exact hxs p.1 p.2 h2 (hall _ h1) hal
    have ha : a = putAll js xs a0 := by
      have ht : a.tmps = (putAll js xs a0).tmps := by
        refine Array.ext_getElem? fun t => ?_
        rw [← hjs]
        by_cases hex : ∃ j, j < n ∧ dstOf l.toArray j = some t
        · obtain ⟨j, hj, hd⟩ := hex
          rw [putAll_in (endPairs C.S n) xs a0 j t (List.mem_filterMap.2 ⟨j, List.mem_range.2 hj, by rw [dst_eq hS', hd]; rfl⟩) (fun p hp hpd => by
            obtain ⟨_, h2⟩ := hpairs p hp
            rw [hpd] at h2
            rcases Nat.decEq p.1 j with h | h
            · exact absurd hd (B.apart p.1 j t h h2)
            · exact h) (by rw [hm]; exact B.inside j t hd)]
          exact hxv j t hd
        · rw [putAll_out _ xs a0 t (fun p hp hpd => by
            obtain ⟨h1, h2⟩ := hpairs p hp
            exact hex ⟨p.1, h1, by rw [← hpd]; exact h2⟩)]
          refine I.frame t fun j hl hj => hex ⟨j, ?_, hj⟩
          rcases Nat.lt_or_ge j n with h | h
          · exact h
          · rw [I.tail j h] at hl; cases hl
      have hd : a.defers = (putAll js xs a0).defers := by rw [putAll_defers]; exact I.defers
      cases a
      cases hq : putAll js xs a0
      rw [hq] at ht hd
      simp only at ht hd
      rw [ht, hd]
    have hlen : l.toArray.size - n = (l.drop n).length := by simp
    rw [hlen, ha]
    exact wpAny_seq B (l.drop n) n _ _ _ (Nat.le_refl _) (by have := B.le; simp at this ⊢; omega) (fun j => by simp) I.size hall (fun j hj => I.tail j hj) (hend xs w' I.ext hgoods)) n (Array.replicate l.toArray.size false) a0 _ I0 (by
      have : (fun i => !(Array.replicate l.toArray.size false).getD i false) = fun _ : Nat => true := by
        funext i
        rw [rep_false]; rfl
      rw [this]
      simp)
  have hsz : n + (l.toArray.size - n) = l.toArray.size := by have := B.le; omega
  rw [hsz] at h
  exact h

theorem wp_region_sure_all {id : Nat} {a0 : Act} {w : World} {l : List Oper} (C : Cfg) (n m : Nat) (js es : List (Nat × Tmp)) (Gs : List Good) (hmix : P.follows .mixedOrders = true)
    (hS : l.map rowOf = C.S) (hB : sureB C.S C.M n m = true) (hm : a0.tmps.size = m) (hjs : endPairs C.S n = js) (hes : (js.filter fun p => aliveB C p.1) = es) (hF : Gs.map (fun g => g.free C.E) = C.F) (hn : l.length = n)
    (h : ∀ (C' : Cfg) (a' : Act) (V : Nat → Good), C' = C → a' = a0 → places V 0 Gs → sureAll P C' V a' w.drew 0 l)
    (hend : ∀ (xs : Nat → Value) (w' : World), Ext w.drew w' → goods Gs xs w' es → Q .normal (putAll js xs a0) w') :
    (Code.region id l.toArray true).wp P Q a0 w :=
  wp_region_sure C n m js es Gs hmix hS hB hm hjs hes hF (fun C' a' V h1 h2 h3 => by rw [List.take_of_length_le (Nat.le_of_eq hn)]; exact h C' a' V h1 h2 h3)
    (fun xs w' hx hg => by rw [List.drop_of_length_le (Nat.le_of_eq hn)]; exact hend xs w' hx hg)

theorem run_plain {ρ : Operand → Value} {o : Oper} {w : World} {K : Value → World → Prop} (h : runs P ρ o w K) : sureRun P none ρ o w K := h
theorem run_guarded {ρ : Operand → Value} {o : Oper} {w : World} {K : Value → World → Prop} {d : Tmp} {b : Bool} (hb : ρ (.tmp d) = .bool b) (h : runs P ρ o w K) : sureRun P (some (d, b)) ρ o w K := by
  simp only [sureRun, guarded, hb, if_true]; exact h
theorem run_passed {ρ : Operand → Value} {o : Oper} {w : World} {K : Value → World → Prop} {d : Tmp} {b : Bool} (hb : ρ (.tmp d) = .bool (!b)) (h : K undef w) : sureRun P (some (d, b)) ρ o w K := by
  cases b <;> simp [sureRun, guarded, hb] <;> exact h
/-- single operations, without the walk's simp -/
theorem map_one {ρ : Operand → Value} {x : Operand} {a : Value} (hx : ρ x = a) : #[x].map ρ = #[a] := by simp [hx]
theorem map_two {ρ : Operand → Value} {x y : Operand} {a b : Value} (hx : ρ x = a) (hy : ρ y = b) : #[x, y].map ρ = #[a, b] := by simp [hx, hy]
theorem map_three {ρ : Operand → Value} {x y z : Operand} {a b c : Value} (hx : ρ x = a) (hy : ρ y = b) (hz : ρ z = c) : #[x, y, z].map ρ = #[a, b, c] := by simp [hx, hy, hz]
theorem map_four {ρ : Operand → Value} {x y z u : Operand} {a b c d : Value} (hx : ρ x = a) (hy : ρ y = b) (hz : ρ z = c) (hu : ρ u = d) : #[x, y, z, u].map ρ = #[a, b, c, d] := by simp [hx, hy, hz, hu]
theorem map_five {ρ : Operand → Value} {x y z u v : Operand} {a b c d e : Value} (hx : ρ x = a) (hy : ρ y = b) (hz : ρ z = c) (hu : ρ u = d) (hv : ρ v = e) : #[x, y, z, u, v].map ρ = #[a, b, c, d, e] := by simp [hx, hy, hz, hu, hv]
theorem op_move {ρ : Operand → Value} {o : Oper} {w : World} {K : Value → World → Prop} {x : Operand} {v : Value} (ho : o.op = .move x) (hx : ρ x = v) (h : K v w) : runs P ρ o w K := by
  subst hx
  unfold runs execOp
  simp only [ho, Sem.run_pure]
  exact h
theorem op_assign {ρ : Operand → Value} {o : Oper} {w : World} {K : Value → World → Prop} {x : Operand} {v : Value} (ho : o.op = .assign x) (hx : ρ x = v) (h : K v w) : runs P ρ o w K := by
  subst hx
  unfold runs execOp
  simp only [ho, Sem.run_pure]
  exact h
theorem op_pick_t {ρ : Operand → Value} {o : Oper} {w : World} {K : Value → World → Prop} {c x y : Operand} {v : Value} (ho : o.op = .pick c x y) (hc : ρ c = .bool true) (hx : ρ x = v) (h : K v w) : runs P ρ o w K := by
  subst hx
  unfold runs execOp
  simp only [ho, hc, asBool, Sem.run_bind, Sem.run_pure, Result.andThen_ok, if_true]
  exact h
theorem op_pick_f {ρ : Operand → Value} {o : Oper} {w : World} {K : Value → World → Prop} {c x y : Operand} {v : Value} (ho : o.op = .pick c x y) (hc : ρ c = .bool false) (hy : ρ y = v) (h : K v w) : runs P ρ o w K := by
  subst hy
  unfold runs execOp
  simp only [ho, hc, asBool, Sem.run_bind, Sem.run_pure, Result.andThen_ok, if_false, Bool.false_eq_true]
  exact h
theorem op_call {ρ : Operand → Value} {o : Oper} {w : World} {K : Value → World → Prop} {f : FuncId} {args : Array Operand} {tys : Array TypeId} {vs : Array Value}
    (ho : o.op = .call { callee := .value (.func f), args := args, argTypes := tys }) (hρ : Env ρ) (hcall : ∀ (args : Array Value) (w : World), (callFunc f args).run P w = .ok (.enter f args) w) (hargs : args.map ρ = vs)
    (h : Calls P f vs w fun e w'' => ∃ v, e = .returned v ∧ K v w'') : runs P ρ o w K := by
  subst hargs
  unfold runs execOp
  simp only [ho, resolve, Deferred.ofValue, hρ.func, invoke, Sem.run_bind, Sem.run_pure, Result.andThen_ok, hcall, Array.append_empty, Array.empty_append]
  exact h
/-- it yields just this, and turns nothing -/
def detK (w : World) (e : Value) : Value → World → Prop := fun v w' => Ext w w' ∧ v = e
theorem detK.mk {w : World} {e : Value} : detK w e e w := ⟨Ext.refl _, rfl⟩
theorem detK.ext {w w' : World} {e : Value} (h : Ext w w') : detK w e e w' := ⟨h, rfl⟩
def goodK (w : World) (G : Good) : Value → World → Prop := fun v w' => Ext w w' ∧ G.G v w'
theorem sure_op {a0 : Act} {w0 : World} {o : Oper} {rest : List Oper} {C : Cfg} {V : Nat → Good} {js : List (Nat × Tmp)} {ts : List Tmp} {gd : Option (Tmp × Bool)} {k : Nat} {G : Good} (hV : V k = G)
    (hl : lookB C k false js ts gd = true)
    (h : ∀ w, Ext w0 w → ∀ ρ, Env ρ → seen V ρ w js → fixed ρ a0 ts → sureRun P gd ρ o w (goodK w G))
    (hr : sureAll P C V a0 w0 (k + 1) rest) : sureAll P C V a0 w0 k (o :: rest) := ⟨⟨false, js, ts, gd, hl, by rw [hV]; exact h⟩, hr⟩
def wildK (E : TypeId) (w0 w : World) (G : Good) : Value → World → Prop := fun v w' => (Below w0.heap.size w w' ∧ WildR E w w') ∧ G.G v w'
/-- one that writes into what the region itself has made -/
theorem sure_wild {a0 : Act} {w0 : World} {o : Oper} {rest : List Oper} {C : Cfg} {V : Nat → Good} {js : List (Nat × Tmp)} {ts : List Tmp} {gd : Option (Tmp × Bool)} {k : Nat} {G : Good} {E : TypeId} (hV : V k = G)
    (hE : C.E = E) (hl : lookB C k true js ts gd = true)
    (h : ∀ w, Ext w0 w → ∀ ρ, Env ρ → seen V ρ w js → fixed ρ a0 ts → sureRun P gd ρ o w (wildK E w0 w G))
    (hr : sureAll P C V a0 w0 (k + 1) rest) : sureAll P C V a0 w0 k (o :: rest) := ⟨⟨true, js, ts, gd, hl, by rw [hV, hE]; exact h⟩, hr⟩
/-- one that yields just this, and turns nothing -/
theorem sure_det {a0 : Act} {w0 : World} {o : Oper} {rest : List Oper} {C : Cfg} {V : Nat → Good} {js : List (Nat × Tmp)} {ts : List Tmp} {gd : Option (Tmp × Bool)} {k : Nat} {e : Value} (hV : V k = .det e)
    (hl : lookB C k false js ts gd = true)
    (h : ∀ w, Ext w0 w → ∀ ρ, Env ρ → seen V ρ w js → fixed ρ a0 ts → sureRun P gd ρ o w (detK w e))
    (hr : sureAll P C V a0 w0 (k + 1) rest) : sureAll P C V a0 w0 k (o :: rest) :=
  sure_op hV hl (fun w hw ρ hρ hs hfx => by
    have := h w hw ρ hρ hs hfx
    have mono : ∀ (A : Value → World → Prop) (B : Value → World → Prop), (∀ v w', A v w' → B v w') → sureRun P gd ρ o w A → sureRun P gd ρ o w B := fun A B hAB => by
      have hruns : runs P ρ o w A → runs P ρ o w B := by
        unfold runs
        split
        · exact hAB _ _
        · exact hAB _ _
        · exact fun hc => Calls.mono hc fun e w'' ⟨v, he, ha⟩ => ⟨v, he, hAB _ _ ha⟩
        · exact id
      unfold sureRun
      cases gd with
      | none => exact hruns
      | some p =>
        simp only [guarded]
        split
        · split
          · exact hruns
          · exact hAB _ _
        · exact hAB _ _
    exact mono _ _ (fun v w' ⟨h1, h2⟩ => ⟨h1, h2⟩) this) hr
end
end Go.Proofs.Ytennnhfaghdeoaa
