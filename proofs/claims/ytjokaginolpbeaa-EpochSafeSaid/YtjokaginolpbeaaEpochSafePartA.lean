import Derived.WalkKit
import Derived.Below
import Derived.KernelRfl
import Derived.Deep.Draws
import Derived.Lib.Hide
import Derived.ArgAppend
import Derived.OwnWalk
import Derived.Test.YtjokaginolpbeaaChecked
import Derived.Laws.BytesArg
import Derived.Outline
import Derived.ProofKit
import Derived.ChangeArms
import Derived.Deep.CutRange
import Derived.LoopTactic
import Derived.Lib.LazyBuf
import Derived.WalkSmall
namespace Go.Proofs.Ytjokaginolpbeaa
open Go.RowKit

/-! A region that draws its order, whose operations make memory but turn none that was there: each operation alone, in whatever world behind the region's head. -/

/-- what was there is as it was -/
def Ext (w w' : World) : Prop := Below w.heap.size w w'
theorem Ext.refl (w : World) : Ext w w := Below.refl _ _
theorem Ext.trans {a b c : World} (h : Ext a b) (k : Ext b c) : Ext a c := Below.trans h (Below.mono k h.size)
theorem Ext.cell {w w' : World} (h : Ext w w') {p : Addr} {v : Value} (hc : w.cell? p = some v) : w'.cell? p = some v := by
  have hb : p.block < w.heap.size := by
    rcases Nat.lt_or_ge p.block w.heap.size with h' | h'
    · exact h'
    · unfold World.cell? at hc; rw [Array.getElem?_eq_none h'] at hc; cases hc
  rw [Below.cell h hb]; exact hc
theorem Ext.drawn {w w' : World} (h : Ext w.drew w') : Ext w w' := Below.trans ((Below.refl w.heap.size w).drew) h
theorem Ext.frozen {w w' : World} (h : Ext w w') {p : Addr} (hb : p.block < w.heap.size) : w'.frozen? p = w.frozen? p := Below.frozen h hb

section
variable {P : Program} {ops : Array Oper} {Q : Exit → Act → World → Prop}

def dstOf (ops : Array Oper) (j : Nat) : Option Tmp := (ops[j]?).bind (·.dst)
/-- an operation's row: the slot that it writes, which it waits for, its guard -/
abbrev Row := Option Nat × List Nat × Option (Nat × Bool)
def rowOf (o : Oper) : Row := (o.dst, (o.after.toList.filter (Region.binds .any ·)).map (·.on), o.guard)
def waits (M : List Nat) (k j : Nat) : Bool := (M.getD k 0).testBit j
def edgesMask (M : List Nat) (es : List Nat) : Nat := es.foldl (fun s e => s ||| (2 ^ e ||| M.getD e 0)) 0
def maskOK (M : List Nat) : Nat → List Row → Bool
  | _, [] => true
  | k, r :: rs => (M.getD k 0 == edgesMask M r.2.1) && (r.2.1.all fun e => decide (e < k)) && maskOK M (k + 1) rs
def nodupB : List Nat → Bool
  | [] => true
  | x :: xs => !xs.contains x && nodupB xs
def tailOK (M : List Nat) (n : Nat) : Nat → List Row → Bool
  | _, [] => true
  | k, _ :: rs => (decide (k < n) || (M.getD k 0 &&& (2 ^ k - 1)) == 2 ^ k - 1) && tailOK M n (k + 1) rs
def insideB (S : List Row) (m : Nat) : Bool := S.all fun r => match r.1 with | none => true | some d => decide (d < m)
def sureB (S : List Row) (M : List Nat) (n m : Nat) : Bool :=
  decide (n ≤ S.length) && maskOK M 0 S && nodupB (S.filterMap (·.1)) && tailOK M n 0 S && insideB S m
def dstS (S : List Row) (j : Nat) : Option Tmp := (S[j]?).bind (·.1)

def putAll : List (Nat × Tmp) → (Nat → Value) → Act → Act
  | [], _, a => a
  | (j, d) :: js, xs, a => putAll js xs (a.put (some d) (xs j))
/-- rows of elements of one type alone are written into -/
def WildR (e : TypeId) (w w' : World) : Prop := w.heap.size ≤ w'.heap.size ∧ ∀ (g : Nat) (c : Array Value) (T : TypeId) (fr : Nat × Nat), w.heap[g]? = some (Obj.cells c T fr) → T ≠ e → w'.heap[g]? = some (Obj.cells c T fr)
/-- what holds of an operation's value, in that world and in each that keeps what was there -/
structure Good where
  G : Value → World → Prop
  st : ∀ v w w', G v w → Ext w w' → G v w'
  free : TypeId → Bool
  fr : ∀ e, free e = true → ∀ v w w', G v w → WildR e w w' → G v w'
def Good.of (G : Value → World → Prop) (st : ∀ v w w', G v w → Ext w w' → G v w') : Good := ⟨G, st, fun _ => false, fun _ h => by cases h⟩
/-- one that says nothing of the world -/
def Good.own (G : Value → Prop) : Good := ⟨fun v _ => G v, fun _ _ _ h _ => h, fun _ => true, fun _ _ _ _ _ h _ => h⟩
/-- a box of the region's own, of another type than what is appended to -/
def boxG (T : TypeId) (cs : Array Value) (B : Nat) (v : Value) (w : World) : Prop := ∃ g, v = .pointer (some ⟨g, 0, none⟩) ∧ B ≤ g ∧ w.heap[g]? = some (.cells cs T (0, 0))
def Good.box (T : TypeId) (cs : Array Value) (B : Nat) : Good := ⟨boxG T cs B, fun _ _ _ ⟨g, e, hB, hc⟩ hx => ⟨g, e, hB, by rw [Below.block hx g (Array.getElem?_eq_some_iff.1 hc).1]; exact hc⟩,
  fun e => e != T, fun _ h _ _ _ ⟨g, e, hB, hc⟩ hx => ⟨g, e, hB, hx.2 g _ _ _ hc (by simp only [bne_iff_ne, ne_eq] at h; exact fun q => h q.symm)⟩⟩
def Good.det (e : Value) : Good := ⟨fun v _ => v = e, fun _ _ _ h _ => h, fun _ => true, fun _ _ _ _ _ h _ => h⟩
def Good.any : Good := ⟨fun _ _ => True, fun _ _ _ _ _ => trivial, fun _ => true, fun _ _ _ _ _ _ _ => trivial⟩
/-- a region's rows, their masks, which results say nothing of the world, and which operations write into what the region itself has made -/
structure Cfg where
  S : List Row
  M : List Nat
  F : List Bool
  W : List Nat
  E : TypeId
def alive (C : Cfg) (j c : Nat) : Bool := C.F.getD j true || j == c || waits C.M j c
def good (Gs : List Good) (j : Nat) : Value → World → Prop := (Gs.getD j Good.any).G
def aliveB (C : Cfg) (j : Nat) : Bool := C.W.all fun c => alive C j c
def goods (Gs : List Good) (xs : Nat → Value) (w : World) : List (Nat × Tmp) → Prop
  | [] => True
  | (j, _) :: js => good Gs j (xs j) w ∧ goods Gs xs w js

/-- how operands read: constants as they stand -/
structure Env (ρ : Operand → Value) : Prop where
  const : ∀ v, ρ (.const v) = v
  func : ∀ f, ρ (.func f) = .func (.func f) #[] #[]
  global : ∀ g, ρ (.global g) = .pointer (some ⟨g, 0, none⟩)
/-- one operation is run, or its callee returns -/
def runs (P : Program) (ρ : Operand → Value) (o : Oper) (w : World) (K : Value → World → Prop) : Prop :=
  match (execOp ρ o).run P w with
  | .ok (.value v) w' => K v w'
  | .ok .skip w' => K undef w'
  | .ok (.enter f args) w' => Calls P f args w' fun e w'' => ∃ v, e = .returned v ∧ K v w''
  | _ => False
def guarded (v : Value) (want : Bool) (A B : Prop) : Prop := match v with | .bool b => if b = want then A else B | _ => B
def sureRun (P : Program) (gd : Option (Tmp × Bool)) (ρ : Operand → Value) (o : Oper) (w : World) (K : Value → World → Prop) : Prop :=
  match gd with
  | none => runs P ρ o w K
  | some (d, want) => guarded (ρ (.tmp d)) want (runs P ρ o w K) (K undef w)
def guardOK (S : List Row) (k : Nat) (gd : Option (Tmp × Bool)) : Bool :=
  match S[k]? with
  | none => false
  | some r => match r.2.2, gd with
    | none, none => true
    | some (g, want), some (d, want') => dstS S g == some d && want == want'
    | _, _ => false
def seen (V : Nat → Good) (ρ : Operand → Value) (w : World) : List (Nat × Tmp) → Prop
  | [] => True
  | (j, d) :: js => (V j).G (ρ (.tmp d)) w ∧ seen V ρ w js
def fixed (ρ : Operand → Value) (a0 : Act) : List Tmp → Prop
  | [] => True
  | t :: ts => ρ (.tmp t) = a0.eval (.tmp t) ∧ fixed ρ a0 ts
/-- what is looked at stands there by then: earlier results, and slots that nothing ahead writes -/
def fixOK (M : List Nat) (k : Nat) (t : Tmp) : Nat → List Row → Bool
  | _, [] => true
  | j, r :: rs => (r.1 != some t || j == k || waits M j k) && fixOK M k t (j + 1) rs
def lookB (C : Cfg) (k : Nat) (wild : Bool) (js : List (Nat × Tmp)) (ts : List Tmp) (gd : Option (Tmp × Bool)) : Bool :=
  guardOK C.S k gd && (js.all fun p => waits C.M k p.1 && dstS C.S p.1 == some p.2 && C.W.all fun c => alive C p.1 c || c == k || waits C.M c k) && (ts.all fun t => fixOK C.M k t 0 C.S) && (C.W.contains k == wild)
/-- what an operation may do to the world -/
def stepW (E : TypeId) (wild : Bool) (w0 w w' : World) : Prop := match wild with | true => Below w0.heap.size w w' ∧ WildR E w w' | false => Ext w w'
/-- operation k alone, in whatever world -/
def sureOne (P : Program) (C : Cfg) (V : Nat → Good) (a0 : Act) (w0 : World) (k : Nat) (o : Oper) (G : Good) : Prop :=
  ∃ (wild : Bool) (js : List (Nat × Tmp)) (ts : List Tmp) (gd : Option (Tmp × Bool)), lookB C k wild js ts gd = true ∧
    ∀ w, Ext w0 w → ∀ ρ, Env ρ → seen V ρ w js → fixed ρ a0 ts → sureRun P gd ρ o w fun v w' => stepW C.E wild w0 w w' ∧ G.G v w'
/-- all of them, in the text's order -/
def sureAll (P : Program) (C : Cfg) (V : Nat → Good) (a0 : Act) (w0 : World) : Nat → List Oper → Prop
  | _, [] => True
  | k, o :: rest => sureOne P C V a0 w0 k o (V k) ∧ sureAll P C V a0 w0 (k + 1) rest
/-- what is good at each place -/
def places (V : Nat → Good) : Nat → List Good → Prop
  | _, [] => True
  | k, G :: Gs => V k = G ∧ places V (k + 1) Gs

theorem put_get_same {a : Act} {d : Tmp} (v : Value) (h : d < a.tmps.size) : (a.put (some d) v).tmps[d]? = some v := by simp [Act.put, h]
theorem put_get_ne {a : Act} {d t : Tmp} (v : Value) (h : d ≠ t) : (a.put (some d) v).tmps[t]? = a.tmps[t]? := by simp [Act.put, Array.getElem?_setIfInBounds_ne h]
theorem put_size (a : Act) (d : Option Tmp) (v : Value) : (a.put d v).tmps.size = a.tmps.size := by cases d <;> simp [Act.put]
theorem put_defers (a : Act) (d : Option Tmp) (v : Value) : (a.put d v).defers = a.defers := by cases d <;> rfl

theorem putAll_defers : ∀ (js : List (Nat × Tmp)) (xs : Nat → Value) (a : Act), (putAll js xs a).defers = a.defers
  | [], _, _ => rfl
  | (_, _) :: js, xs, a => by rw [putAll, putAll_defers js, put_defers]
theorem putAll_out : ∀ (js : List (Nat × Tmp)) (xs : Nat → Value) (a : Act) (t : Tmp), (∀ p ∈ js, p.2 ≠ t) → (putAll js xs a).tmps[t]? = a.tmps[t]?
  | [], _, _, _, _ => rfl
  | (j, d) :: js, xs, a, t, h => by rw [putAll, putAll_out js _ _ _ (fun p hp => h p (by simp [hp])), put_get_ne _ (h (j, d) (by simp))]
/-- the slot of one that is put: whatever else is put besides, if they part. -/
theorem putAll_in : ∀ (js : List (Nat × Tmp)) (xs : Nat → Value) (a : Act) (j : Nat) (d : Tmp), (j, d) ∈ js → (∀ p ∈ js, p.2 = d → p.1 = j) → d < a.tmps.size → (putAll js xs a).tmps[d]? = some (xs j)
  | [], _, _, _, _, h, _, _ => by cases h
  | (i, e) :: js, xs, a, j, d, h, hu, hd => by
    rw [putAll]
    by_cases hin : (j, d) ∈ js
    · exact putAll_in js xs _ j d hin (fun p hp => hu p (by simp [hp])) (by rw [put_size]; exact hd)
    · have he : (j, d) = (i, e) := by
        rcases List.mem_cons.1 h with h | h
        · exact h
        · exact absurd h hin
      obtain ⟨rfl, rfl⟩ := Prod.mk.inj he
      rw [putAll_out js _ _ _ (fun p hp hpd => hin (by
        have := hu p (by simp [hp]) hpd
        obtain ⟨p1, p2⟩ := p
        simp only at this hpd
        subst this; subst hpd
        exact hp)), put_get_same _ hd]

theorem goods_mem {Gs : List Good} {xs : Nat → Value} {w : World} : ∀ {js : List (Nat × Tmp)}, (∀ p ∈ js, good Gs p.1 (xs p.1) w) → goods Gs xs w js
  | [], _ => trivial
  | p :: js, h => ⟨h p (by simp), goods_mem fun q hq => h q (by simp [hq])⟩

theorem goods_get {Gs : List Good} {xs : Nat → Value} {w : World} : ∀ {js : List (Nat × Tmp)}, goods Gs xs w js → ∀ {i : Nat} {j : Nat} {d : Tmp}, js[i]? = some (j, d) → good Gs j (xs j) w
  | [], _, i, j, d, h => by simp at h
  | (j0, d0) :: js, hg, i, j, d, h => by
    cases i with
    | zero =>
      obtain ⟨rfl, rfl⟩ : j0 = j ∧ d0 = d := by simpa using h
      exact hg.1
    | succ i => exact goods_get hg.2 (i := i) (j := j) (d := d) (by simpa using h)

structure SureInv (C : Cfg) (ops : Array Oper) (Gs : List Good) (a0 : Act) (w0 : World) (n : Nat) (listed : Array Bool) (a : Act) (w : World) : Prop where
  size : listed.size = ops.size
  closed : ∀ j oj, ops[j]? = some oj → listed.getD j false = true → ∀ e ∈ oj.after, Region.binds .any e = true → listed.getD e.on false = true
  tail : ∀ t, n ≤ t → listed.getD t false = false
  ext : Ext w0 w
  defers : a.defers = a0.defers
  tsize : a.tmps.size = a0.tmps.size
  frame : ∀ t, (∀ j, listed.getD j false = true → dstOf ops j ≠ some t) → a.tmps[t]? = a0.tmps[t]?
  good : ∀ j, listed.getD j false = true → (∀ c, c ∈ C.W → listed.getD c false = true → alive C j c = true) → ∃ v, (∀ d, dstOf ops j = some d → a.tmps[d]? = some v) ∧ good Gs j v w

theorem edges_bit {M : List Nat} {j : Nat} : ∀ (es : List Nat) (s : Nat), (es.foldl (fun s e => s ||| (2 ^ e ||| M.getD e 0)) s).testBit j = true → s.testBit j = true ∨ ∃ e ∈ es, e = j ∨ waits M e j = true
  | [], _, h => .inl h
  | e :: es, s, h => by
    rcases edges_bit es _ h with h | ⟨e', he', h⟩
    · simp only [Nat.testBit_or, Bool.or_eq_true, Nat.testBit_two_pow, decide_eq_true_eq] at h
      rcases h with h | h | h
      · exact .inl h
      · exact .inr ⟨e, by simp, .inl h⟩
      · exact .inr ⟨e, by simp, .inr h⟩
    · exact .inr ⟨e', by simp [he'], h⟩
theorem mask_spec {M : List Nat} : ∀ (S : List Row) (k0 : Nat), maskOK M k0 S = true → ∀ k r, S[k]? = some r → (∀ e ∈ r.2.1, e < k0 + k) ∧ ∀ j, waits M (k0 + k) j = true → ∃ e ∈ r.2.1, e = j ∨ waits M e j = true
  | [], _, _, k, r, h => by simp at h
  | x :: S, k0, hB, k, r, h => by
    simp only [maskOK, Bool.and_eq_true, beq_iff_eq] at hB
    obtain ⟨⟨h1, h2⟩, h3⟩ := hB
    cases k with
    | zero =>
      obtain rfl : x = r := by simpa using h
      refine ⟨fun e he => by simpa using List.all_eq_true.1 h2 e he, fun j hj => ?_⟩
      unfold waits at hj
      rw [Nat.add_zero, h1] at hj
      rcases edges_bit _ _ hj with h | h
      · simp at h
      · exact h
    | succ k =>
      have := mask_spec S (k0 + 1) h3 k r (by simpa using h)
      rw [show k0 + (k + 1) = k0 + 1 + k by omega]
      exact this
theorem nodup_spec : ∀ {l : List Nat}, nodupB l = true → l.Nodup
  | [], _ => List.nodup_nil
  | x :: xs, h => by
    simp only [nodupB, Bool.and_eq_true, Bool.not_eq_true', List.contains_eq_mem, decide_eq_false_iff_not] at h
    exact List.nodup_cons.2 ⟨h.1, nodup_spec h.2⟩
theorem dst_apart : ∀ {S : List Row}, (S.filterMap (·.1)).Nodup → ∀ i j d, i < j → dstS S i = some d → dstS S j ≠ some d
  | [], _, i, j, d, _, hi => by simp [dstS] at hi
  | r :: S, hn, i, j, d, hij, hi => by
    obtain ⟨j', rfl⟩ : ∃ j', j = j' + 1 := ⟨j - 1, by omega⟩
    have htail : (S.filterMap (·.1)).Nodup := by
      rw [List.filterMap_cons] at hn
      split at hn
      · exact hn
      · exact (List.nodup_cons.1 hn).2
    cases i with
    | zero =>
      have hr : r.1 = some d := by simpa [dstS] using hi
      intro hj
      rw [List.filterMap_cons, hr] at hn
      refine (List.nodup_cons.1 hn).1 ?_
      simp only [dstS, List.getElem?_cons_succ] at hj
      obtain ⟨q, hq, hqd⟩ := Option.bind_eq_some_iff.1 hj
      exact List.mem_filterMap.2 ⟨q, List.mem_of_getElem? hq, hqd⟩
    | succ i =>
      have := dst_apart htail i j' d (by omega) (by simpa [dstS] using hi)
      simpa [dstS] using this
theorem tail_spec {M : List Nat} {n : Nat} : ∀ (S : List Row) (k0 : Nat), tailOK M n k0 S = true → ∀ k, k < S.length → n ≤ k0 + k → ∀ i, i < k0 + k → waits M (k0 + k) i = true
  | [], _, _, k, h => by simp at h
  | x :: S, k0, hB, k, h => by
    simp only [tailOK, Bool.and_eq_true, Bool.or_eq_true, decide_eq_true_eq, beq_iff_eq] at hB
    cases k with
    | zero =>
      intro hn i hi
      rcases hB.1 with h1 | h1
      · omega
      · have h2 := congrArg (fun q => Nat.testBit q i) h1
        simp only [Nat.testBit_and, Nat.testBit_two_pow_sub_one] at h2
        rw [Nat.add_zero] at hi ⊢
        simp only [hi, decide_true, Bool.and_true] at h2
        exact h2
    | succ k =>
      intro hn i hi
      have := tail_spec S (k0 + 1) hB.2 k (by simpa using h) (by omega) i (by omega)
      rw [show k0 + (k + 1) = k0 + 1 + k by omega]
      exact this
theorem fix_spec {M : List Nat} {k : Nat} {t : Tmp} : ∀ (S : List Row) (j0 : Nat), fixOK M k t j0 S = true → ∀ j, dstS S j = some t → j0 + j = k ∨ waits M (j0 + j) k = true
  | [], _, _, j, h => by simp [dstS] at h
  | x :: S, j0, hB, j, h => by
    simp only [fixOK, Bool.and_eq_true, Bool.or_eq_true, bne_iff_ne, ne_eq, beq_iff_eq] at hB
    cases j with
    | zero =>
      have hx : x.1 = some t := by simpa [dstS] using h
      rcases hB.1 with (h1 | h1) | h1
      · exact absurd hx h1
      · exact .inl h1
      · exact .inr h1
    | succ j =>
      have := fix_spec S (j0 + 1) hB.2 j (by simpa [dstS] using h)
      rw [show j0 + (j + 1) = j0 + 1 + j by omega]
      exact this

structure SureB (ops : Array Oper) (M : List Nat) (n m : Nat) : Prop where
  le : n ≤ ops.size
  edge : ∀ k o, ops[k]? = some o → ∀ e ∈ o.after, Region.binds .any e = true → e.on < k
  mask : ∀ k o, ops[k]? = some o → ∀ j, waits M k j = true → ∃ e ∈ o.after, Region.binds .any e = true ∧ (e.on = j ∨ waits M e.on j = true)
  apart : ∀ i j d, i ≠ j → dstOf ops i = some d → dstOf ops j ≠ some d
  tail : ∀ k i, n ≤ k → k < ops.size → i < k → waits M k i = true
  inside : ∀ j d, dstOf ops j = some d → d < m

theorem dst_eq {S : List Row} (hS : ops.toList.map rowOf = S) (j : Nat) : dstS S j = dstOf ops j := by
  subst hS
  simp only [dstS, dstOf, List.getElem?_map, Array.getElem?_toList]
  cases ops[j]? <;> rfl
theorem row_at {S : List Row} (hS : ops.toList.map rowOf = S) {j : Nat} {o : Oper} (h : ops[j]? = some o) : S[j]? = some (rowOf o) := by
  subst hS
  simp [List.getElem?_map, h]

theorem waits_listed {M : List Nat} {n m : Nat} (B : SureB ops M n m) {listed : Array Bool}
    (hc : ∀ j oj, ops[j]? = some oj → listed.getD j false = true → ∀ e ∈ oj.after, Region.binds .any e = true → listed.getD e.on false = true) :
    ∀ (k : Nat) (o : Oper), ops[k]? = some o → (∀ e ∈ o.after, Region.binds .any e = true → listed.getD e.on false = true) → ∀ j, waits M k j = true → listed.getD j false = true := by
  intro k
  induction k using Nat.strongRecOn with
  | _ k ih =>
    intro o ho hall j hw
    have hk : k < ops.size := (Array.getElem?_eq_some_iff.1 ho).1
    obtain ⟨e, he, hb, h4⟩ := B.mask k o ho j hw
    have hlt := B.edge k o ho e he hb
    have hl := hall e he hb
    rcases h4 with h4 | h4
    · rw [← h4]; exact hl
    · have hon : e.on < ops.size := by omega
      exact ih e.on hlt ops[e.on] (Array.getElem?_eq_getElem hon) (fun e' he' hb' => hc e.on ops[e.on] (Array.getElem?_eq_getElem hon) hl e' he' hb') j h4
theorem listed_waits {M : List Nat} {n m : Nat} (B : SureB ops M n m) {listed : Array Bool} (hs : listed.size = ops.size)
    (hc : ∀ j oj, ops[j]? = some oj → listed.getD j false = true → ∀ e ∈ oj.after, Region.binds .any e = true → listed.getD e.on false = true)
    {k j : Nat} (hk : listed.getD k false = true) (hw : waits M k j = true) : listed.getD j false = true := by
  have hlt : k < ops.size := by
    rcases Nat.lt_or_ge k ops.size with h | h
    · exact h
    · rw [Array.getD_eq_getD_getElem?, Array.getElem?_eq_none (by omega)] at hk; simp at hk
  exact waits_listed B hc k ops[k] (Array.getElem?_eq_getElem hlt) (fun e he hb => hc k ops[k] (Array.getElem?_eq_getElem hlt) hk e he hb) j hw
theorem rep_false (m j : Nat) : (Array.replicate m false).getD j false = false := by
  rcases Nat.lt_or_ge j m with h | h
  · simp [h]
  · simp [h]
theorem getD_alike {listed : Array Bool} {j : Nat} (h : listed.getD j true = false) : listed.getD j false = false := by
  rcases Nat.lt_or_ge j listed.size with h' | h'
  · simp [h'] at h ⊢; exact h
  · simp [Array.getElem?_eq_none h']
theorem dstOf_some {j : Nat} {o : Oper} (h : ops[j]? = some o) : dstOf ops j = o.dst := by simp [dstOf, h]
theorem sureB_spec {S : List Row} {M : List Nat} {n m : Nat} (hS : ops.toList.map rowOf = S) (h : sureB S M n m = true) : SureB ops M n m := by
  simp only [sureB, Bool.and_eq_true, decide_eq_true_eq] at h
  obtain ⟨⟨⟨⟨h1, h2⟩, h3⟩, h4⟩, h5⟩ := h
  have hlen : S.length = ops.size := by subst hS; simp
  have hm := mask_spec S 0 h2
  have hn := dst_apart (nodup_spec h3)
  refine ⟨by omega, ?_, ?_, ?_, ?_, ?_⟩
  · intro k o ho e he hb
    have := (hm k _ (row_at hS ho)).1 e.on (List.mem_map.2 ⟨e, List.mem_filter.2 ⟨Array.mem_toList_iff.2 he, hb⟩, rfl⟩)
    omega
  · intro k o ho j hw
    obtain ⟨e, he, h6⟩ := (hm k _ (row_at hS ho)).2 j (by rw [Nat.zero_add]; exact hw)
    obtain ⟨e', he', rfl⟩ := List.mem_map.1 he
    obtain ⟨q1, q2⟩ := List.mem_filter.1 he'
    exact ⟨e', Array.mem_toList_iff.1 q1, q2, h6⟩
  · intro i j d hne hi hj
    rw [← dst_eq hS] at hi hj
    rcases Nat.lt_or_ge i j with h | h
    · exact hn i j d h hi hj
    · exact hn j i d (by omega) hj hi
  · intro k i hk hks hi
    have := tail_spec S 0 h4 k (by omega) (by omega) i (by omega)
    rwa [Nat.zero_add] at this
  · intro j d hj
    rw [← dst_eq hS] at hj
    obtain ⟨r, hr, hd⟩ := Option.bind_eq_some_iff.1 hj
    have := List.all_eq_true.1 h5 r (List.mem_of_getElem? hr)
    simpa [hd] using this

theorem act_env (a : Act) : Env a.eval := ⟨fun _ => rfl, fun _ => rfl, fun _ => rfl⟩
theorem act_eval {a : Act} {t : Tmp} {v : Value} (h : a.tmps[t]? = some v) : a.eval (.tmp t) = v := by simp [Act.eval, h]
theorem seen_of {V : Nat → Good} {ρ : Operand → Value} {w : World} : ∀ {js : List (Nat × Tmp)}, (∀ p ∈ js, (V p.1).G (ρ (.tmp p.2)) w) → seen V ρ w js
  | [], _ => trivial
  | p :: js, h => ⟨h p (by simp), seen_of fun q hq => h q (by simp [hq])⟩
theorem fixed_of {a a0 : Act} : ∀ {ts : List Tmp}, (∀ t ∈ ts, a.tmps[t]? = a0.tmps[t]?) → fixed a.eval a0 ts
  | [], _ => trivial
  | t :: ts, h => ⟨by simp only [Act.eval, Array.getD_eq_getD_getElem?, h t (by simp)], fixed_of fun q hq => h q (by simp [hq])⟩
theorem slot_val {a a0 : Act} {t : Tmp} {v : Value} (ha : a = a0) (h : a0.tmps[t]? = some v) : a.eval (.tmp t) = v := by rw [ha]; exact act_eval h

/-- one operation, in whatever state the order has led to -/
theorem sure_step {C : Cfg} {Gs : List Good} {a0 : Act} {w0 : World} {n m : Nat} (S : SureB ops C.M n m) (hS : ops.toList.map rowOf = C.S) (hm : a0.tmps.size = m) (hst : ∀ j v w w', good Gs j v w → Ext w w' → good Gs j v w')
    (hfr : ∀ j, C.F.getD j true = true → ∀ v w w', good Gs j v w → WildR C.E w w' → good Gs j v w')
    {listed : Array Bool} {a : Act} {w : World} (I : SureInv C ops Gs a0 w0 n listed a w) {k : Nat} {o : Oper} (ho : ops[k]? = some o) (hr : k ∈ Region.ready .any ops listed) (hkn : k < n)
    (h1 : sureOne P C (fun j => Gs.getD j Good.any) a0 w0 k o (Gs.getD k Good.any)) :
    wpOp P ops Q k (fun a' w' => SureInv C ops Gs a0 w0 n (listed.setIfInBounds k true) a' w') a w := by
  obtain ⟨hun, o', ho', hall⟩ := mem_ready.1 hr
  have : o' = o := Option.some.inj (ho'.symm.trans ho)
  subst this
  have hks : k < ops.size := (Array.getElem?_eq_some_iff.1 ho).1
  have hkl : k < listed.size := by rw [I.size]; exact hks
  have hunf := getD_alike hun
  have dep : ∀ j, waits C.M k j = true → listed.getD j false = true := fun j hw => waits_listed S I.closed k o' ho hall j hw
  have undep : ∀ j, waits C.M j k = true → listed.getD j false = false := fun j hw => by
    cases hl : listed.getD j false with
    | false => rfl
    | true => exact absurd (listed_waits S I.size I.closed hl hw) (by rw [hunf]; simp)
  obtain ⟨wild, js, ts, gd, hl, h1⟩ := h1
  simp only [lookB, Bool.and_eq_true, beq_iff_eq] at hl
  obtain ⟨⟨⟨hgd, hl1⟩, hl2⟩, hwild⟩ := hl
  have hseen : seen (fun j => Gs.getD j Good.any) a.eval w js := seen_of fun p hp => by
    have h2 := List.all_eq_true.1 hl1 p hp
    simp only [Bool.and_eq_true, beq_iff_eq] at h2
    obtain ⟨h2, h3⟩ := h2
    rw [dst_eq hS] at h2
    obtain ⟨v, hv, hg⟩ := I.good p.1 (dep p.1 h2.1) (fun c hc hlc => by
      have h4 := List.all_eq_true.1 h3 c hc
      simp only [Bool.or_eq_true, beq_iff_eq] at h4
      rcases h4 with (h4 | h4) | h4
      · exact h4
      · rw [h4, hunf] at hlc; cases hlc
      · rw [undep c h4] at hlc; cases hlc)
    rw [act_eval (hv _ h2.2)]
    exact hg
  have hfix : fixed a.eval a0 ts := fixed_of fun t ht => I.frame t fun j hlj hj => by
    have h2 := fix_spec C.S 0 (List.all_eq_true.1 hl2 t ht) j (by rw [dst_eq hS]; exact hj)
    rw [Nat.zero_add] at h2
    rcases h2 with h2 | h2
    · rw [h2, hunf] at hlj; cases hlj
    · rw [undep j h2] at hlj; cases hlj
  have H := h1 w I.ext a.eval (act_env a) hseen hfix
  -- behind it
  have next : ∀ v w', stepW C.E wild w0 w w' ∧ (Gs.getD k Good.any).G v w' → SureInv C ops Gs a0 w0 n (listed.setIfInBounds k true) (a.put o'.dst v) w' := fun v w' ⟨hx, hg⟩ => by
    refine ⟨by simp [I.size], ?_, ?_, by
      cases wild
      · exact I.ext.trans hx
      · exact Below.trans I.ext hx.1, by rw [put_defers]; exact I.defers, by rw [put_size]; exact I.tsize, ?_, ?_⟩
    · intro j oj hj hl e he hb
      by_cases hkj : k = j
      · subst hkj
        have : oj = o' := Option.some.inj (hj.symm.trans ho)
        subst this
        exact getD_set_true (hall e he hb)
      · rw [getD_set_ne false hkj] at hl
        exact getD_set_true (I.closed j oj hj hl e he hb)
    · intro t ht
      rw [getD_set_ne false (by omega)]
      exact I.tail t ht
    · intro t ht
      have hk' : dstOf ops k ≠ some t := ht k (by simp [hkl])
      rw [dstOf_some ho] at hk'
      have h2 : (a.put o'.dst v).tmps[t]? = a.tmps[t]? := by
        cases hd : o'.dst with
        | none => rfl
        | some d => rw [hd] at hk'; exact put_get_ne _ (fun e => hk' (by rw [e]))
      rw [h2]
      exact I.frame t (fun j hl => ht j (getD_set_true hl))
    · intro j hl hlive
      by_cases hkj : k = j
      · subst hkj
        refine ⟨v, fun d hd => ?_, hg⟩
        rw [dstOf_some ho] at hd
        rw [hd]
        exact put_get_same _ (by rw [I.tsize, hm]; exact S.inside k d (by rw [dstOf_some ho]; exact hd))
      · rw [getD_set_ne false hkj] at hl
        obtain ⟨u, hu, hgu⟩ := I.good j hl (fun c hc hlc => hlive c hc (getD_set_true hlc))
        have hgu' : good Gs j u w' := by
          cases wild with
          | false => exact hst j u w w' hgu hx
          | true =>
            have hkW : k ∈ C.W := by simpa using hwild
            have h4 := hlive k hkW (by simp [hkl])
            simp only [alive, Bool.or_eq_true, beq_iff_eq] at h4
            rcases h4 with (h4 | h4) | h4
            · exact hfr j h4 u w w' hgu hx.2
            · exact absurd h4.symm hkj
            · rw [undep j h4] at hl; cases hl
        refine ⟨u, fun d hd => ?_, hgu'⟩
        cases hd' : o'.dst with
        | none => exact hu d hd
        | some d' =>
          rw [put_get_ne _ (fun e => S.apart k j d' hkj (by rw [dstOf_some ho]; exact hd') (by rw [e]; exact hd))]
          exact hu d hd
  have run : runs P a.eval o' w (fun v w' => stepW C.E wild w0 w w' ∧ (Gs.getD k Good.any).G v w') →
      o'.wp P a w (fun a' w' => SureInv C ops Gs a0 w0 n (listed.setIfInBounds k true) a' w') Q := fun H => by
    unfold Oper.wp
    unfold runs at H
    generalize (execOp a.eval o').run P w = r at *
    cases r with
    | ok nx w' =>
      cases nx <;> simp only [Oper.upon] at H ⊢
      case value v => exact next v w' H
      case skip => exact next undef w' H
      case enter f args =>
        refine Calls.mono H fun e w'' he => ?_
        obtain ⟨v, rfl, hv⟩ := he
        exact next v w'' hv
    | halt x w' => exact H.elim
  unfold wpOp
  simp only [ho]
  simp only [guardOK, row_at hS ho, rowOf] at hgd
  cases hg : o'.guard with
  | none =>
    rw [hg] at hgd
    cases gd with
    | some p => simp at hgd
    | none =>
      rw [if_pos (by simp [Region.wanted, hg])]
      exact .inl (run H)
  | some gw =>
    obtain ⟨g, want⟩ := gw
    rw [hg] at hgd
    cases gd with
    | none => simp at hgd
    | some p =>
      obtain ⟨d, want'⟩ := p
      simp only [Bool.and_eq_true, beq_iff_eq] at hgd
      obtain ⟨hd, rfl⟩ := hgd
      rw [dst_eq hS] at hd
      have hdm : d < a.tmps.size := by rw [I.tsize, hm]; exact S.inside g d hd
      have hy : yielded ops a.tmps g = (match a.eval (.tmp d) with | .bool b => some b | _ => none) := by
        unfold yielded
        have hd' : (ops[g]?).bind (·.dst) = some d := hd
        rw [hd']
        simp [Act.eval, hdm]
        cases a.tmps[d] <;> rfl
      simp only [sureRun, guarded] at H
      unfold Region.wanted
      simp only [hg, hy]
      split at H
      · rename_i b hb
        by_cases hbw : b = want
        · rw [if_pos hbw] at H
          rw [if_pos (by simp [hbw])]
          exact .inl (run H)
        · rw [if_neg hbw] at H
          rw [if_neg (by simp [hbw])]
          exact next undef w H
      · rw [if_neg (by simp)]
        exact next undef w H

theorem countP_less {p q : Nat → Bool} {k : Nat} (hp : p k = true) (hq : q k = false) (hs : ∀ j, j ≠ k → q j = p j) : ∀ n, k < n → (List.range n).countP p = (List.range n).countP q + 1
  | 0, h => absurd h (by omega)
  | n + 1, h => by
    rw [List.range_succ, List.countP_append, List.countP_append]
    by_cases hk : k = n
    · subst hk
      have e : (List.range k).countP p = (List.range k).countP q := List.countP_congr fun j hj => by
        rw [hs j (by have := List.mem_range.1 hj; omega)]
      rw [e]
      simp [hp, hq]
    · rw [countP_less hp hq hs n (by omega)]
      have e : q n = p n := hs n (fun e => hk e.symm)
      simp only [List.countP_cons, List.countP_nil, e]
      omega

theorem wpAny_seq {M : List Nat} {n m : Nat} (B : SureB ops M n m) : ∀ (l : List Oper) (k : Nat) (listed : Array Bool) (a : Act) (w : World), n ≤ k → k + l.length = ops.size → (∀ j, l[j]? = ops[k + j]?) →
    listed.size = ops.size → (∀ j, j < k → listed.getD j false = true) → (∀ j, k ≤ j → listed.getD j false = false) → wpList P ops Q l a w → wpAny P .any ops Q l.length listed a w
  | [], k, listed, a, w, _, hlen, _, hs, h1, _, h => by
    refine ⟨?_, h⟩
    cases hr : Region.ready .any ops listed with
    | nil => rfl
    | cons x xs =>
      have hx : x ∈ Region.ready .any ops listed := by rw [hr]; simp
      obtain ⟨hu, o, ho, _⟩ := mem_ready.1 hx
      have hlt : x < ops.size := (Array.getElem?_eq_some_iff.1 ho).1
      have := h1 x (by simp at hlen; omega)
      rw [getD_alike hu] at this
      cases this
  | o :: l, k, listed, a, w, hn, hlen, hl, hs, h1, h2, h => by
    have h0 : ops[k]? = some o := by simpa using (hl 0).symm
    have hk : k < ops.size := (Array.getElem?_eq_some_iff.1 h0).1
    have hkr : k ∈ Region.ready .any ops listed := mem_ready.2 ⟨by
      have := h2 k (Nat.le_refl _)
      have hkl : k < listed.size := by omega
      simp [hkl] at this ⊢; exact this, o, h0, fun e he hb => h1 e.on (B.edge k o h0 e he hb)⟩
    refine ⟨fun h1 => (by rw [h1] at hkr; cases hkr), fun i hi => ?_⟩
    have hik : i = k := by
      obtain ⟨hu, oi, hoi, hall⟩ := mem_ready.1 hi
      have hi' : i < ops.size := (Array.getElem?_eq_some_iff.1 hoi).1
      rcases Nat.lt_trichotomy i k with h | h | h
      · have := h1 i h; rw [getD_alike hu] at this; cases this
      · exact h
      · have hw := B.tail i k (by omega) hi' h
        have := waits_listed B (listed := listed) (fun j oj hj hlj e he hb => by
          have hjk : j < k := by
            rcases Nat.lt_or_ge j k with h' | h'
            · exact h'
            · rw [h2 j h'] at hlj; cases hlj
          exact h1 e.on (Nat.lt_trans (B.edge j oj hj e he hb) hjk)) i oi hoi hall k hw
        rw [h2 k (Nat.le_refl _)] at this
        cases this
    subst hik
    have hw : wpOp P ops Q i (wpList P ops Q l) a w := by unfold wpOp; simp only [h0]; exact h
    have hil : i < listed.size := by omega
    refine wpOp_mono (fun a' w' h' => wpAny_seq B l (i + 1) _ a' w' (by omega) (by simp at hlen; omega) (fun j => by have := hl (j + 1); simpa [Nat.add_assoc, Nat.add_comm 1 j] using this) (by simp [hs]) (fun j hj => ?_) (fun j hj => ?_) h') hw
    · by_cases hji : i = j
      · subst hji; simp [hil]
      · exact getD_set_true (h1 j (by omega))
    · rw [getD_set_ne false (by omega)]; exact h2 j (by omega)

theorem wpAny_sure {C : Cfg} {Gs : List Good} {a0 : Act} {w0 : World} {n m : Nat} (S : SureB ops C.M n m) (hS : ops.toList.map rowOf = C.S) (hm : a0.tmps.size = m) (hst : ∀ j v w w', good Gs j v w → Ext w w' → good Gs j v w')
    (hfr : ∀ j, C.F.getD j true = true → ∀ v w w', good Gs j v w → WildR C.E w w' → good Gs j v w')
    (hone : ∀ k o, k < n → ops[k]? = some o → sureOne P C (fun j => Gs.getD j Good.any) a0 w0 k o (Gs.getD k Good.any))
    (hend : ∀ listed a w, SureInv C ops Gs a0 w0 n listed a w → (∀ i, i < n → listed.getD i false = true) → wpAny P .any ops Q (ops.size - n) listed a w) :
    ∀ (c : Nat) (listed : Array Bool) (a : Act) (w : World), SureInv C ops Gs a0 w0 n listed a w → (List.range n).countP (fun i => !listed.getD i false) = c → wpAny P .any ops Q (c + (ops.size - n)) listed a w
  | 0, listed, a, w, I, hc => by
    rw [Nat.zero_add]
    refine hend listed a w I fun i hi => ?_
    have := List.countP_eq_zero.1 hc i (List.mem_range.2 hi)
    simpa using this
  | c + 1, listed, a, w, I, hc => by
    rw [show c + 1 + (ops.size - n) = (c + (ops.size - n)) + 1 by omega]
    -- the least one that is still to come
    have hex : ∃ i, i < n ∧ listed.getD i false = false ∧ ∀ j, j < i → listed.getD j false = true := by
      have hpos : 0 < (List.range n).countP (fun i => !listed.getD i false) := by omega
      obtain ⟨i, hi, hn⟩ := List.countP_pos_iff.1 hpos
      have key : ∀ i, i < n → listed.getD i false = false → ∃ i, i < n ∧ listed.getD i false = false ∧ ∀ j, j < i → listed.getD j false = true := by
        intro i
        induction i using Nat.strongRecOn with
        | _ i ih =>
          intro h1 h2
          by_cases hall : ∀ j, j < i → listed.getD j false = true
          · exact ⟨i, h1, h2, hall⟩
          · have hne : ∃ j, j < i ∧ listed.getD j false = false := by
              rcases Classical.em (∃ j, j < i ∧ listed.getD j false = false) with h | h
              · exact h
              · exact absurd (fun j hj => by
                  cases hq : listed.getD j false with
                  | true => rfl
                  | false => exact absurd ⟨j, hj, hq⟩ h) hall
            obtain ⟨j, hj, hjf⟩ := hne
            exact ih j hj (by omega) hjf
      exact key i (List.mem_range.1 hi) (by simpa using hn)
    obtain ⟨i, hin, hif, hall⟩ := hex
    have his : i < ops.size := Nat.lt_of_lt_of_le hin S.le
    have hir : i ∈ Region.ready .any ops listed := by
      refine mem_ready.2 ⟨?_, ops[i], Array.getElem?_eq_getElem his, fun e he hb => hall e.on (S.edge i ops[i] (Array.getElem?_eq_getElem his) e he hb)⟩
      · have hil : i < listed.size := by rw [I.size]; exact his
        simp [hil] at hif ⊢; exact hif
    refine ⟨fun h => (by rw [h] at hir; cases hir), fun k hk => ?_⟩
    obtain ⟨hkun, o, ho, hkall⟩ := mem_ready.1 hk
    have hks : k < ops.size := (Array.getElem?_eq_some_iff.1 ho).1
    have hkn : k < n := by
      rcases Nat.lt_or_ge k n with h | h
      · exact h
      · have h2 := waits_listed S I.closed k o ho hkall i (S.tail k i h hks (by omega))
        rw [hif] at h2; cases h2
    refine wpOp_mono (fun a' w' I' => wpAny_sure S hS hm hst hfr hone hend c _ a' w' I' ?_) (sure_step S hS hm hst hfr I ho hk hkn (hone k o hkn ho))
    have hkl : k < listed.size := by rw [I.size]; exact hks
    have h2 := countP_less (p := fun i => !listed.getD i false) (q := fun i => !(listed.setIfInBounds k true).getD i false) (k := k)
      (by simp only [getD_alike hkun, Bool.not_false]) (by simp [hkl]) (fun j hj => by simp only [getD_set_ne false (Ne.symm hj)]) n hkn
    omega

def endPairs (S : List Row) (n : Nat) : List (Nat × Tmp) := (List.range n).filterMap fun j => (dstS S j).map fun d => (j, d)

theorem places_of (Gs : List Good) : ∀ (L : List Good) (k : Nat), (∀ j, L[j]? ≠ none → Gs[k + j]? = L[j]?) → places (fun j => Gs.getD j Good.any) k L
  | [], _, _ => trivial
  | G :: L, k, h => ⟨by
      have := h 0 (by simp)
      simp at this
      simp [this], places_of Gs L (k + 1) fun j hj => by
      have := h (j + 1) (by simpa using hj)
      rw [show k + 1 + j = k + (j + 1) by omega]
      simpa using this⟩
theorem place_from {V : Nat → Good} : ∀ (L : List Good) (k0 : Nat), places V k0 L → ∀ (k : Nat) (G : Good), L[k]? = some G → V (k0 + k) = G
  | [], _, _, k, G, h => by simp at h
  | x :: L, k0, h, k, G, hk => by
    cases k with
    | zero =>
      obtain rfl : x = G := by simpa using hk
      exact h.1
    | succ k =>
      have := place_from L (k0 + 1) h.2 k G (by simpa using hk)
      rw [show k0 + (k + 1) = k0 + 1 + k by omega]
      exact this
theorem place_at {V : Nat → Good} {Gs : List Good} (h : places V 0 Gs) {k : Nat} {G : Good} (hk : Gs[k]? = some G) : V k = G := by
  have := place_from Gs 0 h k G hk
  rwa [Nat.zero_add] at this
theorem sureAll_at {C : Cfg} {V : Nat → Good} {a0 : Act} {w0 : World} : ∀ (r : List Oper) (k0 : Nat), sureAll P C V a0 w0 k0 r → ∀ k o, r[k]? = some o → sureOne P C V a0 w0 (k0 + k) o (V (k0 + k))
  | [], _, _, k, o, h => by simp at h
  | x :: r, k0, h, k, o, hk => by
    cases k with
    | zero =>
      obtain rfl : x = o := by simpa using hk
      exact h.1
    | succ k =>
      have := sureAll_at r (k0 + 1) h.2 k o (by simpa using hk)
      rw [show k0 + (k + 1) = k0 + 1 + k by omega]
      exact this

/-- A REGION THAT DRAWS ITS ORDER. 'pre', one by one, in whatever order; 'tail' behind them all, in the text's order. -/
theorem wp_region_sure {id : Nat} {a0 : Act} {w : World} {l : List Oper} (C : Cfg) (n m : Nat) (js es : List (Nat × Tmp)) (Gs : List Good) (hmix : P.follows .mixedOrders = true)
    (hS : l.map rowOf = C.S) (hB : sureB C.S C.M n m = true) (hm : a0.tmps.size = m) (hjs : endPairs C.S n = js) (hes : (js.filter fun p => aliveB C p.1) = es) (hF : Gs.map (fun g => g.free C.E) = C.F)
    (h : ∀ (C' : Cfg) (a' : Act) (V : Nat → Good), C' = C → a' = a0 → places V 0 Gs → sureAll P C' V a' w.drew 0 (l.take n))
    (hend : ∀ (xs : Nat → Value) (w' : World), Ext w.drew w' → goods Gs xs w' es → wpList P l.toArray Q (l.drop n) (putAll js xs a0) w') :
    (Code.region id l.toArray true).wp P Q a0 w := by
  have hS' : l.toArray.toList.map rowOf = C.S := by simpa using hS
  have B := sureB_spec hS' hB
  have hone := sureAll_at (l.take n) 0 (h C a0 (fun j => Gs.getD j Good.any) rfl rfl (places_of Gs Gs 0 (fun j _ => by rw [Nat.zero_add])))
  have hst : ∀ j v w w', good Gs j v w → Ext w w' → good Gs j v w' := fun j v w w' h hx => (Gs.getD j Good.any).st v w w' h hx
  have hone' : ∀ k o, k < n → l.toArray[k]? = some o → sureOne P C (fun j => Gs.getD j Good.any) a0 w.drew k o (Gs.getD k Good.any) := fun k o hk ho => by
    have := hone k o (by rw [List.getElem?_take]; simp [hk]; simpa using ho)
    simpa using this
  have hfr : ∀ j, C.F.getD j true = true → ∀ v w w', good Gs j v w → WildR C.E w w' → good Gs j v w' := fun j hj v w w' hg hx => by
    refine (Gs.getD j Good.any).fr C.E ?_ v w w' hg hx
    rw [← hF] at hj
    rcases Nat.lt_or_ge j Gs.length with h' | h'
    · simp [h'] at hj ⊢; exact hj
    · rw [List.getD_eq_getElem?_getD, List.getElem?_eq_none h']; rfl
  refine wp_region_any hmix ?_
  have I0 : SureInv C l.toArray Gs a0 w.drew n (Array.replicate l.toArray.size false) a0 { w with drawn := w.drawn + 1 } := by
    have hf : ∀ j, (Array.replicate l.toArray.size false).getD j false = false := rep_false _
    refine ⟨by simp, fun j oj _ h => (by rw [hf] at h; cases h), fun t _ => hf t, Ext.refl _, rfl, rfl, fun t _ => rfl, fun j h _ => (by rw [hf] at h; cases h)⟩
  have h := wpAny_sure (Q := Q) B hS' hm hst hfr hone' (fun listed a w' I hall => by
    have hpairs : ∀ p ∈ endPairs C.S n, p.1 < n ∧ dstOf l.toArray p.1 = some p.2 := fun p hp => by
      obtain ⟨j, hj, e⟩ := List.mem_filterMap.1 hp
      obtain ⟨d, hd, rfl⟩ := Option.map_eq_some_iff.1 e
      rw [dst_eq hS'] at hd
      exact ⟨List.mem_range.1 hj, hd⟩
    let xs : Nat → Value := fun j => match dstOf l.toArray j with | some d => a.tmps.getD d undef | none => undef
    have hxv : ∀ j d, dstOf l.toArray j = some d → a.tmps[d]? = some (xs j) := fun j d hj => by
      have hd : d < a.tmps.size := by rw [I.tsize, hm]; exact B.inside j d hj
      simp only [xs, hj, Array.getD_eq_getD_getElem?, Array.getElem?_eq_getElem hd, Option.getD_some]
    have hxs : ∀ j d, dstOf l.toArray j = some d → listed.getD j false = true → aliveB C j = true → good Gs j (xs j) w' := fun j d hj hl ha => by
      obtain ⟨v, hv, hg⟩ := I.good j hl (fun c hc _ => List.all_eq_true.1 ha c hc)
      have h2 := hv d hj
      have h3 : xs j = v := Option.some.inj ((hxv j d hj).symm.trans h2)
      rw [h3]
      exact hg
    have hgoods : goods Gs xs w' es := goods_mem fun p hp => by
      rw [← hes, ← hjs] at hp
      obtain ⟨hp, hal⟩ := List.mem_filter.1 hp
      obtain ⟨h1, h2⟩ := hpairs p hp
      exact hxs p.1 p.2 h2 (hall _ h1) hal
    have ha : a = putAll js xs a0 := by
      have ht : a.tmps = (putAll js xs a0).tmps := by
        refine Array.ext_getElem? fun t => ?_
        rw [← hjs]
        by_cases hex : ∃ j, j < n ∧ dstOf l.toArray j = some t
        · obtain ⟨j, hj, hd⟩ := hex
          rw [putAll_in (endPairs C.S n) xs a0 j t (List.mem_filterMap.2 ⟨j, List.mem_range.2 hj, by rw [dst_eq hS', hd]; rfl⟩) (fun p hp hpd => by
            obtain ⟨_, h2⟩ := hpairs p hp
            rw [hpd] at h2
            rcases Nat.decEq p.1 j with h | h
            · exact absurd hd (B.apart p.1 j t h h2)
            · exact h) (by rw [hm]; exact B.inside j t hd)]
          exact hxv j t hd
        · rw [putAll_out _ xs a0 t (fun p hp hpd => by
            obtain ⟨h1, h2⟩ := hpairs p hp
            exact hex ⟨p.1, h1, by rw [← hpd]; exact h2⟩)]
          refine I.frame t fun j hl hj => hex ⟨j, ?_, hj⟩
          rcases Nat.lt_or_ge j n with h | h
          · exact h
          · rw [I.tail j h] at hl; cases hl
      have hd : a.defers = (putAll js xs a0).defers := by rw [putAll_defers]; exact I.defers
      cases a
      cases hq : putAll js xs a0
      rw [hq] at ht hd
      simp only at ht hd
      rw [ht, hd]
    have hlen : l.toArray.size - n = (l.drop n).length := by simp
    rw [hlen, ha]
    exact wpAny_seq B (l.drop n) n _ _ _ (Nat.le_refl _) (by have := B.le; simp at this ⊢; omega) (fun j => by simp) I.size hall (fun j hj => I.tail j hj) (hend xs w' I.ext hgoods)) n (Array.replicate l.toArray.size false) a0 _ I0 (by
      have : (fun i => !(Array.replicate l.toArray.size false).getD i false) = fun _ : Nat => true := by
        funext i
        rw [rep_false]; rfl
      rw [this]
      simp)
  have hsz : n + (l.toArray.size - n) = l.toArray.size := by have := B.le; omega
  rw [hsz] at h
  exact h

theorem wp_region_sure_all {id : Nat} {a0 : Act} {w : World} {l : List Oper} (C : Cfg) (n m : Nat) (js es : List (Nat × Tmp)) (Gs : List Good) (hmix : P.follows .mixedOrders = true)
    (hS : l.map rowOf = C.S) (hB : sureB C.S C.M n m = true) (hm : a0.tmps.size = m) (hjs : endPairs C.S n = js) (hes : (js.filter fun p => aliveB C p.1) = es) (hF : Gs.map (fun g => g.free C.E) = C.F) (hn : l.length = n)
    (h : ∀ (C' : Cfg) (a' : Act) (V : Nat → Good), C' = C → a' = a0 → places V 0 Gs → sureAll P C' V a' w.drew 0 l)
    (hend : ∀ (xs : Nat → Value) (w' : World), Ext w.drew w' → goods Gs xs w' es → Q .normal (putAll js xs a0) w') :
    (Code.region id l.toArray true).wp P Q a0 w :=
  wp_region_sure C n m js es Gs hmix hS hB hm hjs hes hF (fun C' a' V h1 h2 h3 => by rw [List.take_of_length_le (Nat.le_of_eq hn)]; exact h C' a' V h1 h2 h3)
    (fun xs w' hx hg => by rw [List.drop_of_length_le (Nat.le_of_eq hn)]; exact hend xs w' hx hg)

theorem run_plain {ρ : Operand → Value} {o : Oper} {w : World} {K : Value → World → Prop} (h : runs P ρ o w K) : sureRun P none ρ o w K := h
theorem run_guarded {ρ : Operand → Value} {o : Oper} {w : World} {K : Value → World → Prop} {d : Tmp} {b : Bool} (hb : ρ (.tmp d) = .bool b) (h : runs P ρ o w K) : sureRun P (some (d, b)) ρ o w K := by
  simp only [sureRun, guarded, hb, if_true]; exact h
theorem run_passed {ρ : Operand → Value} {o : Oper} {w : World} {K : Value → World → Prop} {d : Tmp} {b : Bool} (hb : ρ (.tmp d) = .bool (!b)) (h : K undef w) : sureRun P (some (d, b)) ρ o w K := by
  cases b <;> simp [sureRun, guarded, hb] <;> exact h
/-- single operations, without the walk's simp -/
theorem map_one {ρ : Operand → Value} {x : Operand} {a : Value} (hx : ρ x = a) : #[x].map ρ = #[a] := by simp [hx]
theorem map_two {ρ : Operand → Value} {x y : Operand} {a b : Value} (hx : ρ x = a) (hy : ρ y = b) : #[x, y].map ρ = #[a, b] := by simp [hx, hy]
theorem map_three {ρ : Operand → Value} {x y z : Operand} {a b c : Value} (hx : ρ x = a) (hy : ρ y = b) (hz : ρ z = c) : #[x, y, z].map ρ = #[a, b, c] := by simp [hx, hy, hz]
theorem map_five {ρ : Operand → Value} {x y z u v : Operand} {a b c d e : Value} (hx : ρ x = a) (hy : ρ y = b) (hz : ρ z = c) (hu : ρ u = d) (hv : ρ v = e) : #[x, y, z, u, v].map ρ = #[a, b, c, d, e] := by simp [hx, hy, hz, hu, hv]
theorem op_move {ρ : Operand → Value} {o : Oper} {w : World} {K : Value → World → Prop} {x : Operand} {v : Value} (ho : o.op = .move x) (hx : ρ x = v) (h : K v w) : runs P ρ o w K := by
  subst hx
  unfold runs execOp
  simp only [ho, Sem.run_pure]
  exact h
theorem op_assign {ρ : Operand → Value} {o : Oper} {w : World} {K : Value → World → Prop} {x : Operand} {v : Value} (ho : o.op = .assign x) (hx : ρ x = v) (h : K v w) : runs P ρ o w K := by
  subst hx
  unfold runs execOp
  simp only [ho, Sem.run_pure]
  exact h
theorem op_pick_t {ρ : Operand → Value} {o : Oper} {w : World} {K : Value → World → Prop} {c x y : Operand} {v : Value} (ho : o.op = .pick c x y) (hc : ρ c = .bool true) (hx : ρ x = v) (h : K v w) : runs P ρ o w K := by
  subst hx
  unfold runs execOp
  simp only [ho, hc, asBool, Sem.run_bind, Sem.run_pure, Result.andThen_ok, if_true]
  exact h
theorem op_pick_f {ρ : Operand → Value} {o : Oper} {w : World} {K : Value → World → Prop} {c x y : Operand} {v : Value} (ho : o.op = .pick c x y) (hc : ρ c = .bool false) (hy : ρ y = v) (h : K v w) : runs P ρ o w K := by
  subst hy
  unfold runs execOp
  simp only [ho, hc, asBool, Sem.run_bind, Sem.run_pure, Result.andThen_ok, if_false, Bool.false_eq_true]
  exact h
theorem op_call {ρ : Operand → Value} {o : Oper} {w : World} {K : Value → World → Prop} {f : FuncId} {args : Array Operand} {tys : Array TypeId} {vs : Array Value}
    (ho : o.op = .call { callee := .value (.func f), args := args, argTypes := tys }) (hρ : Env ρ) (hcall : ∀ (args : Array Value) (w : World), (callFunc f args).run P w = .ok (.enter f args) w) (hargs : args.map ρ = vs)
    (h : Calls P f vs w fun e w'' => ∃ v, e = .returned v ∧ K v w'') : runs P ρ o w K := by
  subst hargs
  unfold runs execOp
  simp only [ho, resolve, Deferred.ofValue, hρ.func, invoke, Sem.run_bind, Sem.run_pure, Result.andThen_ok, hcall, Array.append_empty, Array.empty_append]
  exact h
/-- it yields just this, and turns nothing -/
def detK (w : World) (e : Value) : Value → World → Prop := fun v w' => Ext w w' ∧ v = e
theorem detK.mk {w : World} {e : Value} : detK w e e w := ⟨Ext.refl _, rfl⟩
theorem detK.ext {w w' : World} {e : Value} (h : Ext w w') : detK w e e w' := ⟨h, rfl⟩
def goodK (w : World) (G : Good) : Value → World → Prop := fun v w' => Ext w w' ∧ G.G v w'
theorem sure_op {a0 : Act} {w0 : World} {o : Oper} {rest : List Oper} {C : Cfg} {V : Nat → Good} {js : List (Nat × Tmp)} {ts : List Tmp} {gd : Option (Tmp × Bool)} {k : Nat} {G : Good} (hV : V k = G)
    (hl : lookB C k false js ts gd = true)
    (h : ∀ w, Ext w0 w → ∀ ρ, Env ρ → seen V ρ w js → fixed ρ a0 ts → sureRun P gd ρ o w (goodK w G))
    (hr : sureAll P C V a0 w0 (k + 1) rest) : sureAll P C V a0 w0 k (o :: rest) := ⟨⟨false, js, ts, gd, hl, by rw [hV]; exact h⟩, hr⟩
def wildK (E : TypeId) (w0 w : World) (G : Good) : Value → World → Prop := fun v w' => (Below w0.heap.size w w' ∧ WildR E w w') ∧ G.G v w'
/-- one that writes into what the region itself has made -/
theorem sure_wild {a0 : Act} {w0 : World} {o : Oper} {rest : List Oper} {C : Cfg} {V : Nat → Good} {js : List (Nat × Tmp)} {ts : List Tmp} {gd : Option (Tmp × Bool)} {k : Nat} {G : Good} {E : TypeId} (hV : V k = G)
    (hE : C.E = E) (hl : lookB C k true js ts gd = true)
    (h : ∀ w, Ext w0 w → ∀ ρ, Env ρ → seen V ρ w js → fixed ρ a0 ts → sureRun P gd ρ o w (wildK E w0 w G))
    (hr : sureAll P C V a0 w0 (k + 1) rest) : sureAll P C V a0 w0 k (o :: rest) := ⟨⟨true, js, ts, gd, hl, by rw [hV, hE]; exact h⟩, hr⟩
/-- one that yields just this, and turns nothing -/
theorem sure_det {a0 : Act} {w0 : World} {o : Oper} {rest : List Oper} {C : Cfg} {V : Nat → Good} {js : List (Nat × Tmp)} {ts : List Tmp} {gd : Option (Tmp × Bool)} {k : Nat} {e : Value} (hV : V k = .det e)
    (hl : lookB C k false js ts gd = true)
    (h : ∀ w, Ext w0 w → ∀ ρ, Env ρ → seen V ρ w js → fixed ρ a0 ts → sureRun P gd ρ o w (detK w e))
    (hr : sureAll P C V a0 w0 (k + 1) rest) : sureAll P C V a0 w0 k (o :: rest) :=
  sure_op hV hl (fun w hw ρ hρ hs hfx => by
    have := h w hw ρ hρ hs hfx
    have mono : ∀ (A : Value → World → Prop) (B : Value → World → Prop), (∀ v w', A v w' → B v w') → sureRun P gd ρ o w A → sureRun P gd ρ o w B := fun A B hAB => by
      have hruns : runs P ρ o w A → runs P ρ o w B := by
        unfold runs
        split
        · exact hAB _ _
        · exact hAB _ _
        · exact fun hc => Calls.mono hc fun e w'' ⟨v, he, ha⟩ => ⟨v, he, hAB _ _ ha⟩
        · exact id
      unfold sureRun
      cases gd with
      | none => exact hruns
      | some p =>
        simp only [guarded]
        split
        · split
          · exact hruns
          · exact hAB _ _
        · exact hAB _ _
    exact mono _ _ (fun v w' ⟨h1, h2⟩ => ⟨h1, h2⟩) this) hr
end
end Go.Proofs.Ytjokaginolpbeaa

namespace Go.Proofs.Ytjokaginolpbeaa
open Go.RowKit

/-! Slices as lists of cells: what is read stays read while what was there stays. -/
def Cells (w : World) (A : Option Addr) (xs : List Value) : Prop := xs ≠ [] → ∃ a, A = some a ∧ ∀ j u, xs[j]? = some u → w.cell? (a.add j) = some u
theorem Ext.new (W : World) (o : Obj) : Ext W (W.alloc o).drew := ((Below.refl _ W).alloc (Nat.le_refl _) _).drew
theorem Cells.nil (w : World) (A : Option Addr) : Cells w A [] := fun h => absurd rfl h
theorem Cells.ext {w w' : World} {A : Option Addr} {xs : List Value} (h : Cells w A xs) (hx : Ext w w') : Cells w' A xs := fun hn =>
  let ⟨a, ha, hc⟩ := h hn
  ⟨a, ha, fun j u hu => hx.cell (hc j u hu)⟩
theorem add_block (a : Addr) (n : Nat) : (a.add n).block = a.block := by unfold Addr.add; split <;> rfl
theorem lt_of_cell {w : World} {p : Addr} {v : Value} (hc : w.cell? p = some v) : p.block < w.heap.size := by
  rcases Nat.lt_or_ge p.block w.heap.size with h' | h'
  · exact h'
  · unfold World.cell? at hc; rw [Array.getElem?_eq_none h'] at hc; cases hc
theorem Cells.lt {w : World} {a : Addr} {xs : List Value} (h : Cells w (some a) xs) (hn : xs ≠ []) : a.block < w.heap.size := by
  obtain ⟨b, hb, hc⟩ := h hn
  injection hb with hb
  subst hb
  have hl : 0 < xs.length := List.length_pos_iff.2 hn
  have := lt_of_cell (hc 0 xs[0] (by simp [hl]))
  rwa [add_block] at this
theorem Cells.set {w : World} {A : Option Addr} {xs : List Value} (h : Cells w A xs) {p : Addr} (hp : xs ≠ [] → ∀ a, A = some a → a.block ≠ p.block) (u : Value) : Cells (w.setCell p u) A xs := fun hn =>
  let ⟨a, ha, hc⟩ := h hn
  ⟨a, ha, fun j v hv => by
    rw [World.cell?_setCell_other w p (a.add j) u (fun e => hp hn a ha (by rw [e, add_block]))]
    exact hc j v hv⟩
theorem Cells.take {w : World} {A : Option Addr} {xs : List Value} (h : Cells w A xs) (n : Nat) : Cells w A (xs.take n) := fun hn =>
  let ⟨a, ha, hc⟩ := h (fun e => hn (by rw [e]; simp))
  ⟨a, ha, fun j u hu => hc j u (by
    rw [List.getElem?_take] at hu
    split at hu
    · exact hu
    · cases hu)⟩

section
variable {P : Program}
theorem run_slice3 (t e : TypeId) (i : TypeInfo) (ht : P.underlying t = some (.slice e)) (hi : P.info? e = some i) (A : Option Addr) (n c h : Nat) (hh : h ≤ c) (w : World) :
    (Instr.slice t (.slice A n c) none (some (.int .i64 (h : Int))) (some (.int .i64 (h : Int)))).run P w = .ok (.slice A h h) w := by
  simp [Instr.slice, run_underlying ht, Instr.sliceBounds, Instr.sliceBound, asIntOf, sizeOf, typeInfo, hi, hh]
  intro _
  cases A <;> simp [Addr.add]
theorem run_append_same {w : World} (t ty e : TypeId) (i : TypeInfo) (ht : P.underlying t = some (.slice e)) (hi : P.info? e = some i) (A B : Option Addr) (n c : Nat) (hA : A = none → n = 0) :
    (Builtin.append_ #[t, t] ty #[.slice A n n, .slice B 0 c]).run P w = .ok (.slice A n n) w := by
  cases A <;> cases B <;> simp [Builtin.append_, run_underlying ht, sizeOf, typeInfo, hi, Builtin.lenOf, Builtin.firstCells, loadCells, loadCellsFrom, storeCells]

/-- append onto a slice without room: whatever the two are. -/
theorem run_append_full {w : World} (t ty e : TypeId) (i : TypeInfo) (z : Value) (size bytes : Nat) (ht : P.underlying t = some (.slice e)) (hi : P.info? e = some i) (hz : i.zero = some z)
    (hsize : i.size = size) (hby : i.bytes = bytes) (hzs : z.cells.size = size) (hsz : 0 < size)
    (A : Option Addr) (n : Nat) (olds : List Value) (hlo : olds.length = n * size) (hA : Cells w A olds) (hA0 : A = none → n = 0)
    (B : Option Addr) (m c : Nat) (news : List Value) (hl : news.length = m * size) (hB : Cells w B news) (h63 : n + m ≤ maxLen) (hbytes : (n + m) * bytes ≤ 140737488355328) :
    ∃ A' c' w', (Builtin.append_ #[t, t] ty #[.slice A n n, .slice B m c]).run P w = .ok (.slice A' (n + m) c') w' ∧ n + m ≤ c' ∧ c' ≤ maxLen ∧ (A' = none → c' = 0) ∧ Cells w' A' (olds ++ news) ∧ Ext w w' ∧
      ((A' = A ∧ m = 0 ∧ w' = w) ∨ ∃ a', A' = some a' ∧ a'.block = w.heap.size) := by
  rcases Nat.eq_zero_or_pos m with hm | hm
  · subst hm
    have hn : news = [] := List.eq_nil_of_length_eq_zero (by simpa using hl)
    subst hn
    refine ⟨A, n, w, by simpa using run_append_same t ty e i ht hi A B n c hA0, by omega, by omega, hA0, by simpa using hA, Ext.refl _, .inl ⟨rfl, rfl, rfl⟩⟩
  · have hnn : news ≠ [] := fun e => by
      rw [e] at hl
      have := Nat.mul_pos hm hsz
      simp only [List.length_nil] at hl
      omega
    obtain ⟨b, rfl, hb⟩ := hB hnn
    subst hsize
    subst hby
    have hsmall : n + m ≤ 9223372036854775807 := by simp only [maxLen] at h63; omega
    have hmk : ∀ (cur : Array Value), Ext w (w.drew.alloc (.cells cur e)) := fun cur => ((Below.refl _ w).drew).alloc (Nat.le_refl _) _
    have hcells : ∀ (xs : List Value) (rest : Array Value), Cells (w.drew.alloc (.cells (xs.toArray ++ rest) e)) (some ⟨w.heap.size, 0, none⟩) xs := fun xs rest _ =>
      ⟨_, rfl, fun j u hu => by
        have hj : j < xs.length := (List.getElem?_eq_some_iff.1 hu).1
        have h1 : (w.drew.alloc (.cells (xs.toArray ++ rest) e)).heap[w.heap.size]? = some (.cells (xs.toArray ++ rest) e (0, 0)) := heap_alloc_new w.drew _
        have h2 : (⟨w.heap.size, 0, none⟩ : Addr).add j = ⟨w.heap.size, j, none⟩ := by unfold Addr.add; split <;> simp_all
        rw [h2]
        simp only [World.cell?, h1, Option.isSome_none, Bool.false_eq_true, if_false]
        rw [Array.getElem?_append_left (by simpa using hj)]
        simpa using hu⟩
    rcases A with _ | a
    · have hn := hA0 rfl
      subst hn
      have ho : olds = [] := List.eq_nil_of_length_eq_zero (by simpa using hlo)
      subst ho
      have hr := run_append_nil (P := P) w t ty e i z ht hi hz b m c news hl hb hm (by omega) (by simp at hbytes; omega)
      refine ⟨_, _, _, by simpa using hr, ?_, ?_, (by intro h; cases h), ?_, hmk _, .inr ⟨_, rfl, rfl⟩⟩
      · simpa using grownCap_ge w m 0 e
      · exact grownCap_le_maxLen w m 0 e (by simpa using h63)
      · simpa using hcells news _
    · have hge := grownCap_ge w (n + m) n e
      have hcm := grownCap_le_maxLen w (n + m) n e h63
      by_cases hon : olds = []
      · subst hon
        have hn0 : n = 0 := by
          rcases Nat.eq_zero_or_pos n with h | h
          · exact h
          · have := Nat.mul_pos h hsz; simp at hlo; omega
        subst hn0
        have hr := run_append_grow (P := P) w t ty e i z ht hi hz a 0 0 [] (by simp) (fun j v h => by simp at h) b m c news hl hb (by omega) (by omega) (growslice_fits (by omega) hbytes)
        refine ⟨_, _, _, hr, hge, hcm, (by intro h; cases h), ?_, hmk _, .inr ⟨_, rfl, rfl⟩⟩
        simpa using hcells news _
      · obtain ⟨a', ha', hc'⟩ := hA hon
        injection ha' with ha'
        subst ha'
        have hr := run_append_grow (P := P) w t ty e i z ht hi hz a n n olds hlo hc' b m c news hl hb (by omega) (by omega) (growslice_fits (by omega) hbytes)
        refine ⟨_, _, _, hr, hge, hcm, (by intro h; cases h), ?_, hmk _, .inr ⟨_, rfl, rfl⟩⟩
        have := hcells (olds ++ news) (Builtin.zeroCells z.cells (grownCap w (n + m) n e - (n + m)))
        simpa using this

theorem wpList_append_full {ops : Array Oper} {rest : List Oper} {o : Oper} {a : Act} {Q : Exit → Act → World → Prop} {w : World} (hgd : o.guard = none) (s x : Operand) (t e : TypeId)
    (ho : o.op = .call { callee := .builtin .append, args := #[s, x], argTypes := #[t, t] }) (i : TypeInfo) (z : Value) (size bytes : Nat) (ht : P.underlying t = some (.slice e)) (hi : P.info? e = some i) (hz : i.zero = some z)
    (hsize : i.size = size) (hby : i.bytes = bytes) (hzs : z.cells.size = size) (hsz : 0 < size)
    (A : Option Addr) (n : Nat) (olds : List Value) (hs : a.eval s = .slice A n n) (hlo : olds.length = n * size) (hA : Cells w A olds) (hA0 : A = none → n = 0)
    (B : Option Addr) (m c : Nat) (news : List Value) (hx : a.eval x = .slice B m c) (hl : news.length = m * size) (hB : Cells w B news) (h63 : n + m ≤ maxLen) (hbytes : (n + m) * bytes ≤ 140737488355328)
    (h : ∀ A' c' w', n + m ≤ c' → c' ≤ maxLen → (A' = none → c' = 0) → Cells w' A' (olds ++ news) → Ext w w' → ((A' = A ∧ m = 0 ∧ w' = w) ∨ ∃ a', A' = some a' ∧ a'.block = w.heap.size) →
      wpList P ops Q rest (a.put o.dst (.slice A' (n + m) c')) w') : wpList P ops Q (o :: rest) a w := by
  obtain ⟨A', c', w', hrun, h1, h2, h3, h4, h5, h6⟩ := run_append_full (P := P) (w := w) t o.type e i z size bytes ht hi hz hsize hby hzs hsz A n olds hlo hA hA0 B m c news hl hB h63 hbytes
  refine wpList_plain hgd fun _ hK => ?_
  unfold Oper.wp execOp
  simp only [ho, resolve, invoke, builtin, Sem.run_bind, Sem.run_pure, Result.andThen_ok, List.map_toArray, List.map_cons, List.map_nil, hs, hx, hrun]
  exact hK _ _ (h A' c' w' h1 h2 h3 h4 h5 h6)
/-- append onto a row of the call's own, the source whatever. -/
theorem run_append_own_any {w : World} (base : Nat) (t ty e : TypeId) (i : TypeInfo) (z : Value) (size bytes : Nat) (ht : P.underlying t = some (.slice e)) (hi : P.info? e = some i) (hz : i.zero = some z)
    (hsize : i.size = size) (hby : i.bytes = bytes) (hzs : z.cells.size = size) (hsz : 0 < size)
    (v : Value) (n : Nat) (xs : List Value) (hown : w.ownsRow base e size v n xs)
    (B : Option Addr) (m c : Nat) (news : List Value) (hl : news.length = m * size) (hB : Cells w B news) (hB0 : B = none → c = 0 ∧ m = 0) (h1 : ∀ u ∈ news, u.oneCell' = true)
    (h63 : n + m ≤ maxLen) (hbytes : (n + m) * bytes ≤ 140737488355328) (hbase : base ≤ w.heap.size) :
    ∃ v' w', (Builtin.append_ #[t, t] ty #[v, .slice B m c]).run P w = .ok v' w' ∧ w'.ownsRow base e size v' (n + m) (xs ++ news) ∧ Below base w w' ∧ WildR e w w' := by
  rcases B with _ | b
  · obtain ⟨rfl, rfl⟩ := hB0 rfl
    have hn : news = [] := List.eq_nil_of_length_eq_zero (by simpa using hl)
    subst hn
    exact ⟨v, w, run_append_owned_none (P := P) (w := w) base t ty e i size ht hi v n xs hown, by simpa using hown, Below.refl _ _, Nat.le_refl _, fun _ _ _ _ h _ => h⟩
  · have hnews : ∀ j u, news[j]? = some u → w.cell? (b.add j) = some u := fun j u hu => by
      by_cases hn : news = []
      · subst hn; simp at hu
      · obtain ⟨b', hb', hc⟩ := hB hn
        injection hb' with hb'
        subst hb'
        exact hc j u hu
    obtain ⟨v', w', hr, h2, h3, _⟩ := run_append_own (P := P) (w := w) base t ty e i z size bytes ht hi hz hsize hby hzs hsz v n xs hown b m c news hl hnews h1 h63 hbytes hbase
    refine ⟨v', w', hr, h2, (Below.refl base w).grown h3 hbase (fun k hk => (World.ownsRow.lt hown k hk).1), h3.size, fun g c T fr hg hT => ?_⟩
    rw [h3.block g (Array.getElem?_eq_some_iff.1 hg).1 (fun e' => ?_)]
    · exact hg
    · rcases hown.2 with ⟨rfl, _⟩ | ⟨g', cap, cur, rfl, _, h5, _⟩
      · cases e'
      · have : g = g' := by simpa [Value.ownBlock] using e'
        subst this
        rw [h5] at hg
        injection hg with hg
        injection hg with _ hg
        exact hT hg.symm
theorem wpList_append_own_any {ops : Array Oper} {rest : List Oper} {o : Oper} {a : Act} {Q : Exit → Act → World → Prop} {w : World} (hgd : o.guard = none) (s x : Operand) (t e : TypeId)
    (ho : o.op = .call { callee := .builtin .append, args := #[s, x], argTypes := #[t, t] }) (base : Nat) (i : TypeInfo) (z : Value) (size bytes : Nat) (ht : P.underlying t = some (.slice e)) (hi : P.info? e = some i) (hz : i.zero = some z)
    (hsize : i.size = size) (hby : i.bytes = bytes) (hzs : z.cells.size = size) (hsz : 0 < size)
    (v : Value) (n : Nat) (xs : List Value) (hs : a.eval s = v) (hown : w.ownsRow base e size v n xs)
    (B : Option Addr) (m c : Nat) (news : List Value) (hx : a.eval x = .slice B m c) (hl : news.length = m * size) (hB : Cells w B news) (hB0 : B = none → c = 0 ∧ m = 0) (h1 : ∀ u ∈ news, u.oneCell' = true)
    (h63 : n + m ≤ maxLen) (hbytes : (n + m) * bytes ≤ 140737488355328) (hbase : base ≤ w.heap.size)
    (h : ∀ v' w', w'.ownsRow base e size v' (n + m) (xs ++ news) → Below base w w' → wpList P ops Q rest (a.put o.dst v') w') : wpList P ops Q (o :: rest) a w := by
  obtain ⟨v', w', hrun, h2, h3, _⟩ := run_append_own_any (P := P) (w := w) base t o.type e i z size bytes ht hi hz hsize hby hzs hsz v n xs hown B m c news hl hB hB0 h1 h63 hbytes hbase
  refine wpList_plain hgd fun _ hK => ?_
  unfold Oper.wp execOp
  simp only [ho, resolve, invoke, builtin, Sem.run_bind, Sem.run_pure, Result.andThen_ok, List.map_toArray, List.map_cons, List.map_nil, hs, hx, hrun]
  exact hK _ _ (h v' w' h2 h3)
theorem own_form {w : World} {base : Nat} {e : TypeId} {v : Value} {n : Nat} {xs : List Value} (h : w.ownsRow base e 1 v n xs) :
    ∃ A c, v = .slice A n c ∧ n ≤ c ∧ c ≤ maxLen ∧ (A = none → c = 0) ∧ Cells w A xs ∧ ∀ a, A = some a → base ≤ a.block := by
  have hlen := h.1
  rcases h.2 with ⟨rfl, rfl⟩ | ⟨g, cap, cur, rfl, hb, hh, hn, hc, hs, ht⟩
  · have : xs = [] := List.eq_nil_of_length_eq_zero (by simpa using hlen)
    subst this
    exact ⟨none, 0, rfl, Nat.le_refl _, Nat.zero_le _, fun _ => rfl, Cells.nil _ _, fun a ha => by cases ha⟩
  · refine ⟨_, cap, rfl, hn, hc, (by intro h; cases h), fun _ => ⟨_, rfl, h.cells (g := g) rfl⟩, fun a ha => ?_⟩
    injection ha with ha
    subst ha
    exact hb
end
theorem ownsRow_ext {w w' : World} {base : Nat} {e : TypeId} {size : Nat} {v : Value} {n : Nat} {xs : List Value} (h : w.ownsRow base e size v n xs) (hx : Ext w w') : w'.ownsRow base e size v n xs := by
  refine ⟨h.1, ?_⟩
  rcases h.2 with h2 | ⟨g, cap, cur, h3, h4, h5, h6⟩
  · exact .inl h2
  · exact .inr ⟨g, cap, cur, h3, h4, by rw [Below.block hx g (Array.getElem?_eq_some_iff.1 h5).1]; exact h5, h6⟩
theorem op_buildSlice {P : Program} {ρ : Operand → Value} {o : Oper} {w w' : World} {K : Value → World → Prop} {t : TypeId} {len : Nat} {parts : Array (Nat × Operand)} {v : Value}
    (ho : o.op = .buildSlice t len parts) (hr : (Instr.buildSlice t len (parts.map fun (i, x) => (i, ρ x))).run P w = .ok v w') (h : K v w') : runs P ρ o w K := by
  unfold runs execOp
  simp only [ho, Sem.run_bind, Sem.run_pure, hr, Result.andThen_ok]
  exact h
theorem op_alloc {P : Program} {ρ : Operand → Value} {o : Oper} {w : World} {K : Value → World → Prop} {T : TypeId} {z : Value} (ho : o.op = .alloc T) (hz : (zeroValue T).run P w = .ok z w)
    (h : K (.pointer (some ⟨w.heap.size, 0, none⟩)) (w.alloc (.cells z.cells T))) : runs P ρ o w K := by
  have hr : (Instr.alloc T true (.tuple #[])).run P w = .ok (.pointer (some ⟨w.heap.size, 0, none⟩)) (w.alloc (.cells z.cells T)) := by
    simp [Instr.alloc, hz, newVar, newRow, newObj, go_sem]
    rfl
  unfold runs execOp
  simp only [ho, Sem.run_bind, Sem.run_pure, hr, Result.andThen_ok]
  exact h
/-- cells that a block holds otherwise lie in another one -/
theorem Cells.apart {w : World} {A : Option Addr} {xs : List Value} (h : Cells w A xs) {g : Nat} {c : Array Value} {T : TypeId} {fr : Nat × Nat} (hg : w.heap[g]? = some (.cells c T fr)) (hc : ∀ v ∈ xs, v ∉ c) :
    xs ≠ [] → ∀ a, A = some a → a.block ≠ g := fun hn a ha hb => by
  obtain ⟨a', ha', hcell⟩ := h hn
  rw [ha] at ha'
  injection ha' with ha'
  subst ha'
  have hl : 0 < xs.length := List.length_pos_iff.2 hn
  have h1 := hcell 0 xs[0] (by simp [hl])
  have h2 : a.add 0 = a := by simp [Addr.add]
  rw [h2] at h1
  unfold World.cell? at h1
  rw [hb, hg] at h1
  simp only at h1
  split at h1
  · cases h1
  · exact hc xs[0] (List.getElem_mem hl) (Array.mem_of_getElem? h1)
end Go.Proofs.Ytjokaginolpbeaa

namespace Go.Proofs.Ytjokaginolpbeaa
open Go.RowKit

def bytesOf (l : List UInt8) : List Value := l.map fun b => .int .u8 (b.toNat : Int)
theorem bytesOf_length (l : List UInt8) : (bytesOf l).length = l.length := by simp [bytesOf]
theorem bytesOf_append (a b : List UInt8) : bytesOf (a ++ b) = bytesOf a ++ bytesOf b := by simp [bytesOf]
/-- a slice of bytes -/
structure BytesV (w : World) (A : Option Addr) (n c : Nat) (l : List UInt8) : Prop where
  len : l.length = n
  le : n ≤ c
  cap : c ≤ maxLen
  nil : A = none → c = 0
  cells : Cells w A (bytesOf l)
theorem BytesV.ext {w w' : World} {A : Option Addr} {n c : Nat} {l : List UInt8} (h : BytesV w A n c l) (hx : Ext w w') : BytesV w' A n c l := ⟨h.len, h.le, h.cap, h.nil, h.cells.ext hx⟩
theorem info_u8 : (Try.prog.info? 5).map (fun i => (i.zero, i.size, i.bytes)) = some (some (.int .u8 0), 1, 1) := by kernel_rfl
theorem info_stream : (Try.prog.info? 122).map (fun i => (i.zero, i.size, i.bytes)) = some (some (.agg #[.slice none 0 0, .int .i64 0]), 2, 32) := by kernel_rfl

set_option maxHeartbeats 1000000 in
theorem append_new (A B : Option Addr) (n c m c2 : Nat) (k : Int) (d b : List UInt8) (w : World) (hA : BytesV w A n c d) (hB : BytesV w B m c2 b) (hs : n + m ≤ 65536) :
    Calls Try.prog 91 #[.agg #[.slice A n c, .int .i64 k], .slice B m c2] w fun e w' =>
      ∃ A' c', e = .returned (.agg #[.slice A' (n + m) c', .int .i64 k]) ∧ BytesV w' A' (n + m) c' (d ++ b) ∧ (d ++ b ≠ [] → ∀ a, A' = some a → (A' = A ∧ d ≠ []) ∨ w.heap.size ≤ a.block) ∧ Ext w w' := by
  obtain ⟨i0, hi0, hz0, hz1, hz2⟩ := info_parts info_u8
  have hnc := hA.le
  have hcm := hA.cap
  unfold maxLen at hcm
  have hsl := fun W => run_slice3 (P := Try.prog) _ _ i0 Try.underlying30 hi0 A n c n hnc W
  have hn0 : A = none → n = 0 := fun h => by have := hA.nil h; omega
  have hcells : Cells w A (bytesOf d) := hA.cells
  have hbcells : Cells w B (bytesOf b) := hB.cells
  have hld : (bytesOf d).length = n * 1 := by rw [bytesOf_length, hA.len]; omega
  have hlb : (bytesOf b).length = m * 1 := by rw [bytesOf_length, hB.len]; omega
  have Hlen := Lib.hid hA.len
  have Hlenb := Lib.hid hB.len
  have Hld := Lib.hid hld
  have Hlb := Lib.hid hlb
  clear hld hlb
  have hE : Ext w ((w.alloc (.cells #[.slice A n c, .int .i64 k] 122)).alloc (.cells #[.slice none 0 0, .int .i64 0] 122)) := ((Below.refl _ w).alloc (Nat.le_refl _) _).alloc (by simp) _
  go_enter Try.func91, Try.ntmps91
  go_wp2_with (
    (at_builtin
     refine wpList_append_full rfl (.tmp 13) (.tmp 14) _ _ rfl i0 _ 1 1 Try.underlying30 hi0 hz0 hz1 hz2 rfl (by decide) A n (bytesOf d) rfl Hld.out ?ca hn0 B m c2 (bytesOf b) rfl Hlb.out ?cb ?c63 ?cby ?_
     case ca => exact hcells.ext hE
     case cb => exact hbcells.ext hE
     case c63 => simp only [maxLen]; omega
     case cby => omega
     intro A' c' w1 g1 g2 g3 g4 hx g6
     have c0 := hx.cell (p := ⟨w.heap.size, 0, none⟩) (v := .slice A n c) (by simp [go_sem])
     have c1 := hx.cell (p := ⟨w.heap.size, 1, none⟩) (v := .int .i64 k) (by simp [go_sem])
     have c2 := hx.cell (p := ⟨w.heap.size + 1, 0, none⟩) (v := .slice none 0 0) (by simp [go_sem])
     have c3 := hx.cell (p := ⟨w.heap.size + 1, 1, none⟩) (v := .int .i64 0) (by simp [go_sem])
     have f0 := hx.frozen (p := ⟨w.heap.size, 0, none⟩) (by simp; omega)
     have f2 := hx.frozen (p := ⟨w.heap.size + 1, 0, none⟩) (by simp)
     have f3 := hx.frozen (p := ⟨w.heap.size + 1, 1, none⟩) (by simp)
     simp [go_sem] at f0 f2 f3))
  have hblk : bytesOf d ++ bytesOf b ≠ [] → ∀ a, A' = some a → a.block ≠ w.heap.size ∧ a.block ≠ w.heap.size + 1 := fun hne a ha => by
    rcases g6 with ⟨rfl, hm, _⟩ | ⟨a', ha', hb'⟩
    · have hb0 : bytesOf b = [] := List.eq_nil_of_length_eq_zero (by rw [Hlb.out, hm])
      rw [hb0, List.append_nil] at hne
      subst ha
      have := hcells.lt hne
      omega
    · have : a' = a := Option.some.inj (ha'.symm.trans ha)
      subst this
      simp at hb'
      omega
  refine bodyPost_ret (v := .agg #[.slice A' (n + m) c', .int .i64 k]) (by simp [results, Try.results91, go_sem, c2, c3]) rfl ⟨A', c', rfl, ⟨by rw [List.length_append, Hlen.out, Hlenb.out], g1, g2, g3, ?_⟩, ?_, ?_⟩
  · rw [bytesOf_append]
    exact (((g4.set (fun hne a ha => (hblk hne a ha).1) _).set (fun hne a ha => (hblk hne a ha).2) _).set (fun hne a ha => (hblk hne a ha).2) _)
  · intro hne a ha
    rcases g6 with ⟨rfl, hm, _⟩ | ⟨a', ha', hb'⟩
    · have hb0 : b = [] := List.eq_nil_of_length_eq_zero (by rw [Hlenb.out, hm])
      rw [hb0, List.append_nil] at hne
      exact .inl ⟨rfl, hne⟩
    · have : a' = a := Option.some.inj (ha'.symm.trans ha)
      subst this
      refine .inr ?_
      simp at hb'
      omega
  · exact (((hE.trans hx).setCell (by simp) _).setCell (by simp) _).setCell (by simp) _
def rightB (k : Int) (n : Nat) : Bool := decide (0 ≤ k) && decide (k ≤ (n : Int))
theorem sync_any (A : Option Addr) (n c : Nat) (k : Int) (_hn : n ≤ 9223372036854775807) (w : World) :
    Calls Try.prog 93 #[.agg #[.slice A n c, .int .i64 k]] w fun e w' => e = .returned (.agg #[.slice A n c, .int .i64 n]) ∧ Ext w w' := by
  go_enter Try.func93, Try.ntmps93
  go_wp2
  exact bodyPost_ret (v := .agg #[.slice A n c, .int .i64 n]) (by simp [results, Try.results93, go_sem]) rfl ⟨rfl, ((Below.refl _ _).alloc (Nat.le_refl _) _).alloc (by simp) _⟩
theorem bytesOf_one (l : List UInt8) : ∀ u ∈ bytesOf l, u.oneCell' = true := by
  intro u hu
  obtain ⟨b, _, rfl⟩ := List.mem_map.1 hu
  rfl
theorem BytesV.none0 {w : World} {A : Option Addr} {n c : Nat} {l : List UInt8} (h : BytesV w A n c l) : A = none → c = 0 ∧ n = 0 := fun e => by
  have := h.nil e; have := h.le; omega
theorem bytesOf_notin {l : List UInt8} {A : Option Addr} {n c : Nat} {k : Int} : ∀ v ∈ bytesOf l, v ∉ (#[.slice A n c, .int .i64 k] : Array Value) := by
  intro v hv
  obtain ⟨b, _, rfl⟩ := List.mem_map.1 hv
  simp
/-- a stream that lies in a box of its own: what is stored into the box leaves the bytes -/
theorem BytesV.box {w : World} {A : Option Addr} {n c : Nat} {l : List UInt8} (h : BytesV w A n c l) {g : Nat} {A0 : Option Addr} {n0 c0 : Nat} {k0 : Int} {T : TypeId} {fr : Nat × Nat} (hg : w.heap[g]? = some (.cells #[.slice A0 n0 c0, .int .i64 k0] T fr)) (u v : Value) (i j : Nat) :
    BytesV ((w.setCell ⟨g, i, none⟩ u).setCell ⟨g, j, none⟩ v) A n c l :=
  ⟨h.len, h.le, h.cap, h.nil, (h.cells.set (h.cells.apart hg bytesOf_notin) _).set (h.cells.apart hg bytesOf_notin) _⟩
end Go.Proofs.Ytjokaginolpbeaa

namespace Go.Proofs.Ytjokaginolpbeaa
open Go.ChangeShapes Go.WideShapes Go.ChangeAt Go.RowKit

/-! Slices that came in, whatever their elements. -/
theorem addr_add_add (a : Addr) (i j : Nat) : (a.add i).add j = a.add (i + j) := by
  unfold Addr.add
  by_cases hi : i = 0
  · subst hi; simp
  · by_cases hj : j = 0
    · subst hj; simp [hi]
    · simp [hi, hj]; omega
theorem heap_setCell_at {w : World} {g i : Nat} {u : Value} {c : Array Value} {T : TypeId} {fr : Nat × Nat} (h : w.heap[g]? = some (.cells c T fr)) : (w.setCell ⟨g, i, none⟩ u).heap[g]? = some (.cells (c.setIfInBounds i u) T fr) := by
  simp [World.setCell, Array.getElem?_modify, h]
theorem heap_ext {w w' : World} {g : Nat} {o : Obj} (h : w.heap[g]? = some o) (hx : Ext w w') : w'.heap[g]? = some o := by
  rw [Below.block hx g (Array.getElem?_eq_some_iff.1 h).1]; exact h
/-- a row of cells stored, one behind the other -/
def setAll (g : Nat) : Nat → List Value → World → World
  | _, [], w => w
  | i, v :: vs, w => setAll g (i + 1) vs (w.setCell ⟨g, i, none⟩ v)
theorem setAll_other {g k : Nat} (hk : k ≠ g) : ∀ (vs : List Value) (i : Nat) (w : World), (setAll g i vs w).heap[k]? = w.heap[k]?
  | [], _, _ => rfl
  | v :: vs, i, w => by rw [setAll, setAll_other hk vs (i + 1), Below.heap_setCell _ _ _ _ hk]
theorem setAll_size {g : Nat} : ∀ (vs : List Value) (i : Nat) (w : World), (setAll g i vs w).heap.size = w.heap.size
  | [], _, _ => rfl
  | v :: vs, i, w => by rw [setAll, setAll_size vs (i + 1)]; simp [World.setCell]
theorem setAll_rest {g : Nat} : ∀ (vs : List Value) (i : Nat) (w : World), (setAll g i vs w).os = w.os ∧ (setAll g i vs w).tape = w.tape ∧ (setAll g i vs w).output = w.output
  | [], _, _ => ⟨rfl, rfl, rfl⟩
  | v :: vs, i, w => by rw [setAll]; exact setAll_rest vs (i + 1) _
theorem setAll_same {g : Nat} {T : TypeId} {fr : Nat × Nat} : ∀ (vs : List Value) (done old : List Value) (w : World), w.heap[g]? = some (.cells (done ++ old).toArray T fr) → old.length = vs.length →
    (setAll g done.length vs w).heap[g]? = some (.cells (done ++ vs).toArray T fr)
  | [], done, old, w, h, hl => by
    have : old = [] := List.eq_nil_of_length_eq_zero (by simpa using hl)
    subst this
    exact h
  | v :: vs, done, old, w, h, hl => by
    match old, hl with
    | o :: old, hl =>
      have h1 := heap_setCell_at (i := done.length) (u := v) h
      have h2 : (done ++ o :: old).toArray.setIfInBounds done.length v = ((done ++ [v]) ++ old).toArray := by simp
      rw [h2] at h1
      have := setAll_same vs (done ++ [v]) old (w.setCell ⟨g, done.length, none⟩ v) h1 (by simpa using hl)
      rw [setAll]
      simpa using this
theorem setAll_all {g : Nat} {T : TypeId} {fr : Nat × Nat} {vs old : List Value} {w : World} (h : w.heap[g]? = some (.cells old.toArray T fr)) (hl : old.length = vs.length) : (setAll g 0 vs w).heap[g]? = some (.cells vs.toArray T fr) := by
  simpa using setAll_same vs [] old w (by simpa using h) hl
theorem setAll_ext {g : Nat} {w0 : World} {vs : List Value} {i : Nat} {w : World} (h : Ext w0 w) (hg : w0.heap.size ≤ g) : Ext w0 (setAll g i vs w) := by
  induction vs generalizing i w with
  | nil => exact h
  | cons v vs ih => rw [setAll]; exact ih (Below.setCell h hg _)
section
variable {H : Type} {enc : TypeId × Value → H} {P : Program} {w : World} {base : Nat} {spare : Nat → Bool} {held : Bool}
end
end Go.Proofs.Ytjokaginolpbeaa

namespace Go.Proofs.Ytjokaginolpbeaa
open Go.RowKit

/-! Disks: rows of streams. -/
/-- a stream: where its bytes stand, how many, how much is synced, and the bytes -/
structure St where
  D : Option Addr
  q : Nat
  cd : Nat
  k : Int
  d : List UInt8
def St.cells (s : St) : List Value := [.slice s.D s.q s.cd, .int .i64 s.k]
/-- what is told of it -/
def St.key (s : St) : List UInt8 × Int := (s.d, s.k)
def St.zero : St := ⟨none, 0, 0, 0, []⟩
def StOK (w : World) (s : St) : Prop := BytesV w s.D s.q s.cd s.d
theorem StOK.ext {w w' : World} {s : St} (h : StOK w s) (hx : Ext w w') : StOK w' s := BytesV.ext h hx
theorem StOK.zero (w : World) : StOK w St.zero := ⟨rfl, Nat.le_refl _, Nat.zero_le _, fun _ => rfl, Cells.nil _ _⟩
theorem StOK.set {w : World} {s : St} (h : StOK w s) {p : Addr} (hp : s.d ≠ [] → ∀ a, s.D = some a → a.block ≠ p.block) (u : Value) : StOK (w.setCell p u) s :=
  ⟨h.len, h.le, h.cap, h.nil, h.cells.set (fun hn => hp fun e => hn (by rw [e]; rfl)) u⟩
theorem StOK.low {w : World} {s : St} (h : StOK w s) (hd : s.d ≠ []) (a : Addr) (ha : s.D = some a) : a.block < w.heap.size := by
  have hc := h.cells
  rw [ha] at hc
  exact hc.lt fun e => hd (by simpa [bytesOf] using e)
def rowCells (l : List St) : List Value := l.flatMap St.cells
theorem rowCells_length (l : List St) : (rowCells l).length = l.length * 2 := by
  induction l with
  | nil => rfl
  | cons x l ih => simp only [rowCells, List.flatMap_cons, List.length_append] at ih ⊢; rw [ih]; simp [St.cells]; omega
theorem rowCells_one (l : List St) : ∀ u ∈ rowCells l, u.oneCell' = true := by
  intro u hu
  obtain ⟨x, _, hx⟩ := List.mem_flatMap.1 hu
  simp [St.cells] at hx
  rcases hx with rfl | rfl <;> rfl
theorem rowCells_at : ∀ {l : List St} {j : Nat} {s : St}, l[j]? = some s → (rowCells l)[j * 2]? = some (.slice s.D s.q s.cd) ∧ (rowCells l)[j * 2 + 1]? = some (.int .i64 s.k)
  | [], j, s, h => by simp at h
  | x :: l, 0, s, h => by
    obtain rfl : x = s := by simpa using h
    exact ⟨rfl, rfl⟩
  | x :: l, j + 1, s, h => by
    have ih := rowCells_at (l := l) (j := j) (s := s) (by simpa using h)
    have e : rowCells (x :: l) = x.cells ++ rowCells l := rfl
    rw [e, List.getElem?_append_right (by simp [St.cells]; omega), List.getElem?_append_right (by simp [St.cells]; omega)]
    simp only [St.cells, List.length_cons, List.length_nil]
    exact ⟨by rw [show (j + 1) * 2 - (0 + 1 + 1) = j * 2 by omega]; exact ih.1, by rw [show (j + 1) * 2 + 1 - (0 + 1 + 1) = j * 2 + 1 by omega]; exact ih.2⟩
theorem rowCells_set : ∀ {l : List St} {j : Nat} (s : St), rowCells (l.set j s) = ((rowCells l).set (j * 2) (.slice s.D s.q s.cd)).set (j * 2 + 1) (.int .i64 s.k)
  | [], j, s => by simp [rowCells]
  | x :: l, 0, s => rfl
  | x :: l, j + 1, s => by
    have ih := rowCells_set (l := l) (j := j) s
    have e : ∀ (y : St) (t : List St), rowCells (y :: t) = .slice y.D y.q y.cd :: .int .i64 y.k :: rowCells t := fun _ _ => rfl
    rw [List.set_cons_succ, e, e, ih, show (j + 1) * 2 = j * 2 + 1 + 1 by omega, show j * 2 + 1 + 1 + 1 = (j * 2 + 1) + 1 + 1 by omega]
    simp only [List.set_cons_succ]
structure RowV (w : World) (A : Option Addr) (n c : Nat) (l : List St) : Prop where
  len : l.length = n
  le : n ≤ c
  cap : c ≤ maxLen
  nil : A = none → c = 0
  cells : Cells w A (rowCells l)
  ok : ∀ s ∈ l, StOK w s
theorem RowV.ext {w w' : World} {A : Option Addr} {n c : Nat} {l : List St} (h : RowV w A n c l) (hx : Ext w w') : RowV w' A n c l := ⟨h.len, h.le, h.cap, h.nil, h.cells.ext hx, fun s hs => (h.ok s hs).ext hx⟩
theorem RowV.none0 {w : World} {A : Option Addr} {n c : Nat} {l : List St} (h : RowV w A n c l) : A = none → c = 0 ∧ n = 0 := fun e => by
  have := h.nil e; have := h.le; omega
theorem RowV.at {w : World} {A : Option Addr} {n c : Nat} {l : List St} (h : RowV w A n c l) {j : Nat} {s : St} (hs : l[j]? = some s) :
    ∃ a, A = some a ∧ w.cell? (a.add (j * 2)) = some (.slice s.D s.q s.cd) ∧ w.cell? ⟨(a.add (j * 2)).block, (a.add (j * 2)).off + 1, none⟩ = some (.int .i64 s.k) ∧ StOK w s := by
  obtain ⟨h1, h2⟩ := rowCells_at hs
  obtain ⟨a, ha, hc⟩ := h.cells (fun e => by rw [e] at h1; simp at h1)
  refine ⟨a, ha, hc _ _ h1, ?_, h.ok s (List.mem_of_getElem? hs)⟩
  have := hc _ _ h2
  rw [← addr_add_add] at this
  exact this
theorem row_nil (w : World) : RowV w none 0 0 [] := ⟨rfl, Nat.le_refl _, Nat.zero_le _, fun _ => rfl, Cells.nil _ _, fun s h => by cases h⟩
/-- a row of the call's own -/
structure OwnR (w : World) (base : Nat) (v : Value) (n : Nat) (l : List St) : Prop where
  own : w.ownsRow base 122 2 v n (rowCells l)
  ok : ∀ s ∈ l, StOK w s
theorem OwnR.ext {w w' : World} {base : Nat} {v : Value} {n : Nat} {l : List St} (h : OwnR w base v n l) (hx : Ext w w') : OwnR w' base v n l := ⟨ownsRow_ext h.own hx, fun s hs => (h.ok s hs).ext hx⟩
theorem OwnR.low {w : World} {base base' : Nat} {v : Value} {n : Nat} {l : List St} (h : OwnR w base v n l) (hb : base' ≤ base) : OwnR w base' v n l := ⟨⟨h.own.1, by
  rcases h.own.2 with h2 | ⟨g, cap, cur, h3, h4, h5⟩
  · exact .inl h2
  · exact .inr ⟨g, cap, cur, h3, Nat.le_trans hb h4, h5⟩⟩, h.ok⟩
theorem OwnR.len {w : World} {base : Nat} {v : Value} {n : Nat} {l : List St} (h : OwnR w base v n l) : l.length = n := by
  have := h.own.1
  rw [rowCells_length] at this; omega
theorem OwnR.form {w : World} {base : Nat} {v : Value} {n : Nat} {l : List St} (h : OwnR w base v n l) : ∃ A c, v = .slice A n c ∧ RowV w A n c l := by
  rcases h.own.2 with ⟨rfl, rfl⟩ | ⟨g, cap, cur, rfl, hb, hh, hn, hc, hs, ht⟩
  · have := List.eq_nil_of_length_eq_zero h.len
    subst this
    exact ⟨none, 0, rfl, row_nil w⟩
  · exact ⟨_, cap, rfl, h.len, hn, hc, (by intro h; cases h), fun _ => ⟨_, rfl, h.own.cells (g := g) rfl⟩, h.ok⟩
/-- one of its streams: its cells may be written -/
theorem OwnR.at {w : World} {base : Nat} {v : Value} {n : Nat} {l : List St} (h : OwnR w base v n l) {j : Nat} {s : St} (hs : l[j]? = some s) :
    ∃ g c, v = .slice (some ⟨g, 0, none⟩) n c ∧ base ≤ g ∧ g < w.heap.size ∧ n ≤ c ∧ w.cell? ⟨g, j * 2, none⟩ = some (.slice s.D s.q s.cd) ∧ w.cell? ⟨g, j * 2 + 1, none⟩ = some (.int .i64 s.k) ∧ w.frozen? ⟨g, j * 2, none⟩ = false ∧ w.frozen? ⟨g, j * 2 + 1, none⟩ = false ∧
      ∀ s' w', (∀ x ∈ s' :: l, StOK w' x) → w'.heap[g]? = ((w.setCell ⟨g, j * 2, none⟩ (.slice s'.D s'.q s'.cd)).setCell ⟨g, j * 2 + 1, none⟩ (.int .i64 s'.k)).heap[g]? → OwnR w' base v n (l.set j s') := by
  have hj : j < l.length := (List.getElem?_eq_some_iff.1 hs).1
  have hlen := h.len
  rcases h.own.2 with ⟨rfl, h0⟩ | ⟨g, cap, cur, rfl, hb, hh, hn, hc, hsz, ht⟩
  · omega
  · obtain ⟨h1, h2⟩ := rowCells_at hs
    have key : ∀ i u, i < n * 2 → (rowCells l)[i]? = some u → cur[i]? = some u := fun i u hi hu => by
      rw [← ht, List.getElem?_take] at hu
      simp only [hi, if_true] at hu
      simpa using hu
    have k1 := key _ _ (by omega) h1
    have k2 := key _ _ (by omega) h2
    refine ⟨g, cap, rfl, hb, (Array.getElem?_eq_some_iff.1 hh).1, hn, by simp [World.cell?, hh, k1], by simp [World.cell?, hh, k2], by simp [World.frozen?, hh], by simp [World.frozen?, hh], fun s' w' hok hw => ⟨⟨by rw [rowCells_length, List.length_set]; omega, .inr ⟨g, cap, (cur.setIfInBounds (j * 2) (.slice s'.D s'.q s'.cd)).setIfInBounds (j * 2 + 1) (.int .i64 s'.k), rfl, hb, ?_, hn, hc, by simpa using hsz, ?_⟩⟩, fun x hx => ?_⟩⟩
    · rw [hw]
      exact heap_setCell_at (heap_setCell_at hh)
    · rw [Array.toList_setIfInBounds, Array.toList_setIfInBounds, List.take_set, List.take_set, ht, rowCells_set]
    · rcases List.mem_or_eq_of_mem_set hx with h' | h'
      · exact hok x (by simp [h'])
      · exact hok x (by simp [h'])
/-- another block is written -/
theorem OwnR.other {w : World} {base : Nat} {A : Option Addr} {n c : Nat} {l : List St} (h : OwnR w base (.slice A n c) n l) {p : Addr} {u : Value} (hp : ∀ a, A = some a → a.block ≠ p.block) (hok : ∀ s ∈ l, StOK (w.setCell p u) s) : OwnR (w.setCell p u) base (.slice A n c) n l := by
  refine ⟨⟨h.own.1, ?_⟩, hok⟩
  rcases h.own.2 with h2 | ⟨g, cap, cur, h3, h4, h5, h6⟩
  · exact .inl h2
  · refine .inr ⟨g, cap, cur, h3, h4, ?_, h6⟩
    have hA : A = some ⟨g, 0, none⟩ := by simpa using (Value.slice.inj h3).1
    rw [Below.heap_setCell _ _ _ _ (hp _ hA)]
    exact h5
/-- is there such a stream? -/
def isB (row i : Int) (n0 n1 : Nat) : Bool := if row = 0 then decide (0 ≤ i ∧ i < (n0 : Int)) else if row = 1 then decide (0 ≤ i ∧ i < (n1 : Int)) else false
set_option maxRecDepth 100000 in
set_option maxHeartbeats 1000000 in
theorem is_any7 (R : Int) (A0 A1 : Option Addr) (n0 c0 n1 c1 : Nat) (row i : Int) (w : World) :
    Calls Try.prog 136 #[.agg #[.int .u64 R, .slice A0 n0 c0, .slice A1 n1 c1], .int .i64 row, .int .i64 i] w fun e w' => e = .returned (.bool (isB row i n0 n1)) ∧ Ext w w' := by
  have hE : Ext w (w.alloc (.cells #[.int .u64 R, .slice A0 n0 c0, .slice A1 n1 c1] 49)) := (Below.refl _ w).alloc (Nat.le_refl _) _
  by_cases h0 : row = 0
  · subst h0
    by_cases hi : 0 ≤ i
    · by_cases hn : i < (n0 : Int)
      · rw [show isB 0 i n0 n1 = true by simp [isB, hi, hn]]
        go_enter Try.func136, Try.ntmps136
        go_wp2
        go_ret
        exact ⟨rfl, hE⟩
      · rw [show isB 0 i n0 n1 = false by simp [isB, hn]]
        go_enter Try.func136, Try.ntmps136
        go_wp2
        go_ret
        exact ⟨rfl, hE⟩
    · rw [show isB 0 i n0 n1 = false by simp [isB, hi]]
      go_enter Try.func136, Try.ntmps136
      go_wp2
      go_ret
      exact ⟨rfl, hE⟩
  · by_cases h1 : row = 1
    · subst h1
      by_cases hi : 0 ≤ i
      · by_cases hn : i < (n1 : Int)
        · rw [show isB 1 i n0 n1 = true by simp [isB, hi, hn]]
          go_enter Try.func136, Try.ntmps136
          go_wp2
          go_ret
          exact ⟨rfl, hE⟩
        · rw [show isB 1 i n0 n1 = false by simp [isB, hn]]
          go_enter Try.func136, Try.ntmps136
          go_wp2
          go_ret
          exact ⟨rfl, hE⟩
      · rw [show isB 1 i n0 n1 = false by simp [isB, hi]]
        go_enter Try.func136, Try.ntmps136
        go_wp2
        go_ret
        exact ⟨rfl, hE⟩
    · rw [show isB row i n0 n1 = false by simp [isB, h0, h1]]
      by_cases h2 : 0 ≤ row
      · have h3 : ¬ row < 2 := by omega
        go_enter Try.func136, Try.ntmps136
        go_wp2
        go_ret
        exact ⟨rfl, hE⟩
      · go_enter Try.func136, Try.ntmps136
        go_wp2
        go_ret
        exact ⟨rfl, hE⟩
theorem own_start (w : World) : (w.alloc (.cells #[] 122)).ownsRow w.heap.size 122 2 (.slice (some ⟨w.heap.size, 0, none⟩) 0 0) 0 [] :=
  ⟨by simp, .inr ⟨_, 0, #[], rfl, Nat.le_refl _, heap_alloc_new w _, Nat.le_refl _, Nat.zero_le _, by simp, by simp⟩⟩
set_option maxRecDepth 100000 in
set_option maxHeartbeats 1000000 in
/-- slices.Clone of a row of streams -/
theorem clone_row (A : Option Addr) (n c : Nat) (l : List St) (w : World) (hA : RowV w A n c l) (hn : n ≤ 65536) :
    Calls Try.prog 138 #[.slice A n c] w fun e w' => ∃ v, e = .returned v ∧ OwnR w' w.heap.size v n l ∧ Ext w w' := by
  obtain ⟨i0, hi0, hz0, hz1, hz2⟩ := info_parts info_stream
  have hbs : ∀ W : World, (Instr.buildSlice 46 0 #[]).run Try.prog W = .ok (.slice (some ⟨W.heap.size, 0, none⟩) 0 0) (W.alloc (.cells #[] 122)) := fun _ => by kernel_rfl
  have hnil := fun (W : World) (A : Option Addr) (n c : Nat) => Go.run_eql_slice_nil (P := Try.prog) W 46 122 A n c Try.underlying46
  have hlen := hA.len
  rcases A with _ | a
  · obtain ⟨rfl, rfl⟩ := hA.none0 rfl
    have := List.eq_nil_of_length_eq_zero hlen
    subst this
    go_enter Try.func138, Try.ntmps138
    go_wp2
    go_ret
    exact ⟨_, rfl, ⟨World.ownsRow_nil _ _ _ _, fun s h => by cases h⟩, Ext.refl _⟩
  · have hW : Ext w (w.alloc (.cells #[] 122)) := (Below.refl _ w).alloc (Nat.le_refl _) _
    have hown0 := own_start w
    go_enter Try.func138, Try.ntmps138
    go_wp2_with (at_builtin; refine wpList_append_own_any rfl (.tmp 5) (.tmp 6) _ _ rfl w.heap.size i0 _ 2 32 Try.underlying46 hi0 hz0 hz1 hz2 rfl (by decide) _ 0 [] rfl hown0 (some a) n c (rowCells l) rfl (by rw [rowCells_length, hlen]) (hA.cells.ext hW) hA.none0 (rowCells_one _) (by simp only [maxLen]; omega) (by omega) (by simp) ?_; intro v1 w1 hown1 hb1)
    try simp only [Nat.zero_add, List.nil_append] at hown1
    have hX := Below.trans hW hb1
    go_ret
    exact ⟨_, rfl, ⟨hown1, fun s hs => (hA.ok s hs).ext hX⟩, hX⟩
set_option maxRecDepth 100000 in
set_option maxHeartbeats 1000000 in
/-- slices.Clone of bytes -/
theorem clone_bytes (A : Option Addr) (n c : Nat) (d : List UInt8) (w : World) (hA : BytesV w A n c d) (hn : n ≤ 65536) :
    Calls Try.prog 137 #[.slice A n c] w fun e w' => ∃ A' c', e = .returned (.slice A' n c') ∧ BytesV w' A' n c' d ∧ Ext w w' := by
  obtain ⟨i0, hi0, hz0, hz1, hz2⟩ := info_parts info_u8
  have hbs : ∀ W : World, (Instr.buildSlice 30 0 #[]).run Try.prog W = .ok (.slice (some ⟨W.heap.size, 0, none⟩) 0 0) (W.alloc (.cells #[] 5)) := fun _ => by kernel_rfl
  have hnil := fun (W : World) (A : Option Addr) (n c : Nat) => Go.run_eql_slice_nil (P := Try.prog) W 30 5 A n c Try.underlying30
  have hlen := hA.len
  rcases A with _ | a
  · obtain ⟨rfl, rfl⟩ := hA.none0 rfl
    go_enter Try.func137, Try.ntmps137
    go_wp2
    go_ret
    exact ⟨none, 0, rfl, hA, Ext.refl _⟩
  · have hW : Ext w (w.alloc (.cells #[] 5)) := (Below.refl _ w).alloc (Nat.le_refl _) _
    have hown0 : (w.alloc (.cells #[] 5)).ownsRow w.heap.size 5 1 (.slice (some ⟨w.heap.size, 0, none⟩) 0 0) 0 [] :=
      ⟨by simp, .inr ⟨_, 0, #[], rfl, Nat.le_refl _, heap_alloc_new w _, Nat.le_refl _, Nat.zero_le _, by simp, by simp⟩⟩
    go_enter Try.func137, Try.ntmps137
    go_wp2_with (at_builtin; refine wpList_append_own_any rfl (.tmp 5) (.tmp 6) _ _ rfl w.heap.size i0 _ 1 1 Try.underlying30 hi0 hz0 hz1 hz2 rfl (by decide) _ 0 [] rfl hown0 (some a) n c (bytesOf d) rfl (by rw [bytesOf_length, hlen]; omega) (hA.cells.ext hW) hA.none0 (bytesOf_one d) (by simp only [maxLen]; omega) (by omega) (by simp) ?_; intro v1 w1 hown1 hb1)
    try simp only [Nat.zero_add, List.nil_append] at hown1
    have hX := Below.trans hW hb1
    obtain ⟨A5, c5, rfl, h1, h2, h3, h4, -⟩ := own_form hown1
    go_ret
    exact ⟨_, _, rfl, ⟨hlen, h1, h2, h3, h4⟩, hX⟩
end Go.Proofs.Ytjokaginolpbeaa

namespace Go.Proofs.Ytjokaginolpbeaa
open Go.RowKit

/-! What is handed to a program: an access is told by the log, or stops all. -/
/-- as it was, but for one block -/
structure ExtB (g : Nat) (w w' : World) : Prop where
  os : w'.os = w.os
  tape : w'.tape = w.tape
  output : w'.output = w.output
  size : w.heap.size ≤ w'.heap.size
  block : ∀ k, k < w.heap.size → k ≠ g → w'.heap[k]? = w.heap[k]?
theorem ExtB.refl (g : Nat) (w : World) : ExtB g w w := ⟨rfl, rfl, rfl, Nat.le_refl _, fun _ _ _ => rfl⟩
theorem ExtB.trans {g : Nat} {a b c : World} (h : ExtB g a b) (k : ExtB g b c) : ExtB g a c :=
  ⟨k.os.trans h.os, k.tape.trans h.tape, k.output.trans h.output, Nat.le_trans h.size k.size, fun i hi hg => (k.block i (Nat.lt_of_lt_of_le hi h.size) hg).trans (h.block i hi hg)⟩
theorem ExtB.of {g : Nat} {w w' : World} (h : Ext w w') : ExtB g w w' := ⟨h.os, h.tape, h.output, h.size, fun k hk _ => h.block k hk⟩
theorem ExtB.set {g : Nat} {w w' : World} (h : ExtB g w w') (i : Nat) (u : Value) : ExtB g w (w'.setCell ⟨g, i, none⟩ u) :=
  ⟨h.os, h.tape, h.output, by simpa [World.setCell] using h.size, fun k hk hg => by rw [Below.heap_setCell _ _ _ _ hg]; exact h.block k hk hg⟩
theorem ExtB.heap {g : Nat} {w w' : World} (h : ExtB g w w') {k : Nat} {o : Obj} (hk : w.heap[k]? = some o) (hg : k ≠ g) : w'.heap[k]? = some o := by
  rw [h.block k (Array.getElem?_eq_some_iff.1 hk).1 hg]; exact hk
theorem ExtB.cell {g : Nat} {w w' : World} (h : ExtB g w w') {p : Addr} {v : Value} (hc : w.cell? p = some v) (hg : p.block ≠ g) : w'.cell? p = some v := by
  rw [World.cell?_of_block (h.block p.block (lt_of_cell hc) hg)]; exact hc
/-- back to 'nothing has turned', below what was there when the block was not -/
theorem ExtB.ext {g : Nat} {w0 w w' : World} (h : ExtB g w w') (h0 : Ext w0 w) (hg : w0.heap.size ≤ g) : Ext w0 w' :=
  ⟨h.os.trans h0.os, h.tape.trans h0.tape, h.output.trans h0.output, Nat.le_trans h0.size h.size, fun k hk => (h.block k (Nat.lt_of_lt_of_le hk h0.size) (by omega)).trans (h0.block k hk)⟩

/-- a result: a number, bytes, whether the disk failed -/
structure Res where
  n : Int
  A : Option Addr
  k : Nat
  c : Nat
  fail : Bool
def Res.v (r : Res) : Value := .agg #[.int .u64 r.n, .slice r.A r.k r.c, .bool r.fail]
/-- an access: its kind, a cell, two numbers, bytes, words -/
structure Acc where
  kind : Int
  cell : Int
  a : Int
  b : Int
  D : Option Addr
  dk : Nat
  dc : Nat
  W : Option Addr
  wk : Nat
  wc : Nat
def Acc.cells (x : Acc) : Array Value := #[.int .i64 x.kind, .int .i64 x.cell, .int .u64 x.a, .int .u64 x.b, .slice x.D x.dk x.dc, .slice x.W x.wk x.wc]
def Acc.v (x : Acc) : Value := .agg x.cells
/-- results in a row -/
def ResAt (w : World) (a : Addr) (i : Nat) (r : Res) : Prop := w.cell? (a.add (i * 3)) = some (.int .u64 r.n) ∧ w.cell? ((a.add (i * 3)).add 1) = some (.slice r.A r.k r.c) ∧ w.cell? ((a.add (i * 3)).add 2) = some (.bool r.fail)
/-- what is left of a log: how far it is gone through stands in one block, the log in another -/
def DoAt (m : Nat) (w : World) (gA gL : Nat) (rs : List Res) : Prop :=
  ∃ (i n c : Nat) (A : Option Addr) (fr : Nat × Nat), w.heap[gA]? = some (.cells #[.int .i64 i] 3 (0, 0)) ∧ w.heap[gL]? = some (.cells #[.slice A n c] 25 fr) ∧ n ≤ 65536 ∧ i + rs.length = n ∧ gA ≠ gL ∧
    ∀ j r, rs[j]? = some r → ∃ a, A = some a ∧ a.block ≠ gA ∧ a.block < m ∧ ResAt w a (i + j) r
theorem ResAt.extB {g : Nat} {w w' : World} {a : Addr} {i : Nat} {r : Res} (h : ResAt w a i r) (hx : ExtB g w w') (hg : a.block ≠ g) : ResAt w' a i r :=
  ⟨hx.cell h.1 (by rw [add_block]; exact hg), hx.cell h.2.1 (by rw [add_block, add_block]; exact hg), hx.cell h.2.2 (by rw [add_block, add_block]; exact hg)⟩
theorem DoAt.ext {m : Nat} {w w' : World} {gA gL : Nat} {rs : List Res} (h : DoAt m w gA gL rs) (hx : Ext w w') : DoAt m w' gA gL rs := by
  obtain ⟨i, n, c, A, fr, h1, h2, h3, h4, h5, h6⟩ := h
  have hk : ∀ {k : Nat} {o : Obj}, w.heap[k]? = some o → w'.heap[k]? = some o := fun {k o} hk => by rw [Below.block hx k (Array.getElem?_eq_some_iff.1 hk).1]; exact hk
  exact ⟨i, n, c, A, fr, hk h1, hk h2, h3, h4, h5, fun j r hr => let ⟨a, ha, hb, hm, hc⟩ := h6 j r hr; ⟨a, ha, hb, hm, hx.cell hc.1, hx.cell hc.2.1, hx.cell hc.2.2⟩⟩
theorem DoAt.sizes {m : Nat} {w : World} {gA gL : Nat} {rs : List Res} (h : DoAt m w gA gL rs) : gA < w.heap.size ∧ gL < w.heap.size := by
  obtain ⟨i, n, c, A, fr, h1, h2, -⟩ := h
  exact ⟨(Array.getElem?_eq_some_iff.1 h1).1, (Array.getElem?_eq_some_iff.1 h2).1⟩
theorem add_add3 (a : Addr) (i j : Nat) : (a.add i).add j = a.add (i + j) := by
  unfold Addr.add
  by_cases hi : i = 0
  · subst hi; simp
  · by_cases hj : j = 0
    · subst hj; simp [hi]
    · simp [hi, hj]; omega
set_option maxRecDepth 100000 in
set_option maxHeartbeats 1000000 in
theorem do_next (a0 a1 a2 a3 a4 a5 : Value) (gA gL : Nat) (r : Res) (rs : List Res) (m : Nat) (w : World) (h : DoAt m w gA gL (r :: rs)) :
    Calls Try.prog 142 #[.agg #[a0, a1, a2, a3, a4, a5], .pointer (some ⟨gA, 0, none⟩), .pointer (some ⟨gL, 0, none⟩)] w fun e w' => e = .returned r.v ∧ DoAt m w' gA gL rs ∧ ExtB gA w w' := by
  obtain ⟨i, n, c, A, fr, h1, h2, h3, h4, h5, h6⟩ := h
  obtain ⟨a, rfl, hab, -, hr⟩ := h6 0 r rfl
  obtain ⟨rn, rA, rk, rc, rf⟩ := r
  obtain ⟨q0, q1, q2⟩ := hr
  simp only [Nat.add_zero] at q0 q1 q2
  have c0 : w.cell? ⟨gA, 0, none⟩ = some (.int .i64 i) := by simp [World.cell?, h1]
  have c1 : w.cell? ⟨gL, 0, none⟩ = some (.slice (some a) n c) := by simp [World.cell?, h2]
  have f0 : w.frozen? ⟨gA, 0, none⟩ = false := by simp [World.frozen?, h1]
  have hin : i < n := by simp at h4; omega
  have hlA : gA < w.heap.size := lt_of_cell c0
  have hne : ¬ ((i : Int) = (n : Int)) := by omega
  have hW : Ext w ((w.alloc (.cells #[a0, a1, a2, a3, a4, a5] 33)).alloc (.cells #[.int .u64 0, .slice none 0 0, .bool false] 59)) := ((Below.refl _ w).alloc (Nat.le_refl _) _).alloc (by simp) _
  have hres : ((w.alloc (.cells #[a0, a1, a2, a3, a4, a5] 33)).alloc (.cells #[.int .u64 0, .slice none 0 0, .bool false] 59)).heap[w.heap.size + 1]? = some (.cells #[.int .u64 0, .slice none 0 0, .bool false] 59 (0, 0)) := by
    simpa using heap_alloc_new (w.alloc (.cells #[a0, a1, a2, a3, a4, a5] 33)) (.cells #[.int .u64 0, .slice none 0 0, .bool false] 59)
  go_enter Try.func142, Try.ntmps142
  go_upto_region 1 with (fail)
  generalize (w.alloc (.cells #[a0, a1, a2, a3, a4, a5] 33)).alloc (.cells #[.int .u64 0, .slice none 0 0, .bool false] 59) = W at *
  have d0 := hW.cell c0
  have d1 := hW.cell c1
  have e0 : W.frozen? ⟨gA, 0, none⟩ = false := by rw [hW.frozen hlA]; exact f0
  go_upto_region 4 with (fail)
  have hB : ExtB gA w (W.setCell ⟨gA, 0, none⟩ (.int .i64 ((i : Int) + 1))) := (ExtB.of hW).set _ _
  have d2 : (W.setCell ⟨gA, 0, none⟩ (.int .i64 ((i : Int) + 1))).cell? ⟨gA, 0, none⟩ = some (.int .i64 ((i : Int) + 1)) := World.cell?_setCell_same W _ _ d0
  have d3 := hB.cell c1 (fun e => h5 e.symm)
  have p0 := hB.cell q0 (by rw [add_block]; exact hab)
  have p1 := hB.cell q1 (by rw [add_block, add_block]; exact hab)
  have p2 := hB.cell q2 (by rw [add_block, add_block]; exact hab)
  rw [show (a.add (i * 3)).add 1 = ⟨(a.add (i * 3)).block, (a.add (i * 3)).off + 1, none⟩ from rfl] at p1
  rw [show (a.add (i * 3)).add 2 = ⟨(a.add (i * 3)).block, (a.add (i * 3)).off + 2, none⟩ from rfl] at p2
  have g2 : (W.setCell ⟨gA, 0, none⟩ (.int .i64 ((i : Int) + 1))).heap[gA]? = some (.cells #[.int .i64 ((i : Int) + 1)] 3 (0, 0)) := by
    have hg : W.heap[gA]? = some (.cells #[.int .i64 i] 3 (0, 0)) := by rw [Below.block hW gA hlA]; exact h1
    simp [World.setCell, Array.getElem?_modify, hg]
  have g3 : (W.setCell ⟨gA, 0, none⟩ (.int .i64 ((i : Int) + 1))).heap[w.heap.size + 1]? = some (.cells #[.int .u64 0, .slice none 0 0, .bool false] 59 (0, 0)) := by
    rw [Below.heap_setCell _ _ _ _ (by simp; omega)]; exact hres
  clear d0 d1 e0 hres
  generalize W.setCell ⟨gA, 0, none⟩ (.int .i64 ((i : Int) + 1)) = W2 at *
  have x0 : W2.cell? ⟨w.heap.size + 1, 0, none⟩ = some (.int .u64 0) := by simp [World.cell?, g3]
  have x1 : W2.cell? ⟨w.heap.size + 1, 1, none⟩ = some (.slice none 0 0) := by simp [World.cell?, g3]
  have x2 : W2.cell? ⟨w.heap.size + 1, 2, none⟩ = some (.bool false) := by simp [World.cell?, g3]
  have y0 : W2.frozen? ⟨w.heap.size + 1, 0, none⟩ = false := by simp [World.frozen?, g3]
  have y1 : W2.frozen? ⟨w.heap.size + 1, 1, none⟩ = false := by simp [World.frozen?, g3]
  have y2 : W2.frozen? ⟨w.heap.size + 1, 2, none⟩ = false := by simp [World.frozen?, g3]
  go_wp2
  have hend : ExtB gA w (((W2.setCell ⟨w.heap.size + 1, 0, none⟩ (.int .u64 rn)).setCell ⟨w.heap.size + 1, 1, none⟩ (.slice rA rk rc)).setCell ⟨w.heap.size + 1, 2, none⟩ (.bool rf)) :=
    ⟨hB.os, hB.tape, hB.output, by simpa [World.setCell] using hB.size, fun k hk hg => by
      rw [Below.heap_setCell _ _ _ _ (by simp; omega), Below.heap_setCell _ _ _ _ (by simp; omega), Below.heap_setCell _ _ _ _ (by simp; omega)]; exact hB.block k hk hg⟩
  have g4 : (((W2.setCell ⟨w.heap.size + 1, 0, none⟩ (.int .u64 rn)).setCell ⟨w.heap.size + 1, 1, none⟩ (.slice rA rk rc)).setCell ⟨w.heap.size + 1, 2, none⟩ (.bool rf)).heap[gA]? = some (.cells #[.int .i64 ((i : Int) + 1)] 3 (0, 0)) := by
    rw [Below.heap_setCell _ _ _ _ (by simp; omega), Below.heap_setCell _ _ _ _ (by simp; omega), Below.heap_setCell _ _ _ _ (by simp; omega)]; exact g2
  refine bodyPost_ret (v := .agg #[.int .u64 rn, .slice rA rk rc, .bool rf]) (by simp [results, Try.results142, go_sem, x0, x1, x2]) rfl ⟨rfl, ⟨i + 1, n, c, some a, fr, by simpa using g4, hend.heap h2 (fun e => h5 e.symm), h3, by simp at h4; omega, h5, fun j r hr => ?_⟩, hend⟩
  obtain ⟨a', ha', hb', hm', hc'⟩ := h6 (j + 1) r (by simpa using hr)
  exact ⟨a', ha', hb', hm', by rw [show i + 1 + j = i + (j + 1) by omega]; exact hc'.extB hend hb'⟩
/-- what a program is stopped with -/
def needP (a : Array Value) : Ending := .panicked [{ v := .iface 170 (.agg a), recovered := false }]
set_option maxRecDepth 100000 in
set_option maxHeartbeats 1000000 in
theorem do_stop (a0 a1 a2 a3 a4 a5 : Value) (gA gL : Nat) (m : Nat) (w : World) (h : DoAt m w gA gL []) :
    Calls Try.prog 142 #[.agg #[a0, a1, a2, a3, a4, a5], .pointer (some ⟨gA, 0, none⟩), .pointer (some ⟨gL, 0, none⟩)] w fun e w' => e = needP #[a0, a1, a2, a3, a4, a5] ∧ Ext w w' := by
  obtain ⟨i, n, c, A, fr, h1, h2, h3, h4, h5, h6⟩ := h
  obtain rfl : i = n := by simpa using h4
  have c0 : w.cell? ⟨gA, 0, none⟩ = some (.int .i64 i) := by simp [World.cell?, h1]
  have c1 : w.cell? ⟨gL, 0, none⟩ = some (.slice A i c) := by simp [World.cell?, h2]
  have hW : Ext w ((w.alloc (.cells #[a0, a1, a2, a3, a4, a5] 33)).alloc (.cells #[.int .u64 0, .slice none 0 0, .bool false] 59)) := ((Below.refl _ w).alloc (Nat.le_refl _) _).alloc (by simp) _
  have b0 : ∀ k v, (#[a0, a1, a2, a3, a4, a5] : Array Value)[k]? = some v → ((w.alloc (.cells #[a0, a1, a2, a3, a4, a5] 33)).alloc (.cells #[.int .u64 0, .slice none 0 0, .bool false] 59)).cell? ⟨w.heap.size, k, none⟩ = some v := fun k v hk => by
    have hg : ((w.alloc (.cells #[a0, a1, a2, a3, a4, a5] 33)).alloc (.cells #[.int .u64 0, .slice none 0 0, .bool false] 59)).heap[w.heap.size]? = some (.cells #[a0, a1, a2, a3, a4, a5] 33 (0, 0)) := by
      rw [Below.heap_alloc _ _ _ (by simp)]; exact heap_alloc_new w _
    simp only [World.cell?, hg, Option.isSome_none, Bool.false_eq_true, if_false]
    exact hk
  have z0 := b0 0 a0 rfl
  have z1 := b0 1 a1 rfl
  have z2 := b0 2 a2 rfl
  have z3 := b0 3 a3 rfl
  have z4 := b0 4 a4 rfl
  have z5 := b0 5 a5 rfl
  clear b0
  go_enter Try.func142, Try.ntmps142
  go_upto_region 1 with (fail)
  generalize (w.alloc (.cells #[a0, a1, a2, a3, a4, a5] 33)).alloc (.cells #[.int .u64 0, .slice none 0 0, .bool false] 59) = W at *
  have d0 := hW.cell c0
  have d1 := hW.cell c1
  go_wp2
  exact ⟨rfl, rfl, hW⟩
end Go.Proofs.Ytjokaginolpbeaa

namespace Go.Proofs.Ytjokaginolpbeaa.SB
open Go.RowKit Go.Proofs.Ytjokaginolpbeaa

/-! XSure again, where an operation may also turn one block 'gx' that was there, and a call may panic ('Pn'). -/
/-- as it was, but for some blocks -/
structure ExtS (bs : List Nat) (w w' : World) : Prop where
  os : w'.os = w.os
  tape : w'.tape = w.tape
  output : w'.output = w.output
  size : w.heap.size ≤ w'.heap.size
  block : ∀ k, k < w.heap.size → k ∉ bs → w'.heap[k]? = w.heap[k]?
theorem ExtS.refl (bs : List Nat) (w : World) : ExtS bs w w := ⟨rfl, rfl, rfl, Nat.le_refl _, fun _ _ _ => rfl⟩
theorem ExtS.of {bs : List Nat} {w w' : World} (h : Ext w w') : ExtS bs w w' := ⟨h.os, h.tape, h.output, h.size, fun k hk _ => h.block k hk⟩
theorem ExtS.mono {bs cs : List Nat} {w w' : World} (h : ExtS bs w w') (hs : ∀ b, b ∈ bs → b ∈ cs) : ExtS cs w w' := ⟨h.os, h.tape, h.output, h.size, fun k hk hn => h.block k hk fun hb => hn (hs k hb)⟩
theorem ExtS.trans {bs : List Nat} {a b c : World} (h : ExtS bs a b) (k : ExtS bs b c) : ExtS bs a c :=
  ⟨k.os.trans h.os, k.tape.trans h.tape, k.output.trans h.output, Nat.le_trans h.size k.size, fun i hi hg => (k.block i (Nat.lt_of_lt_of_le hi h.size) hg).trans (h.block i hi hg)⟩
theorem ExtS.ext {w w' : World} (h : ExtS [] w w') : Ext w w' := ⟨h.os, h.tape, h.output, h.size, fun k hk => h.block k hk (by simp)⟩
theorem ExtS.heap {bs : List Nat} {w w' : World} (h : ExtS bs w w') {k : Nat} {o : Obj} (hk : w.heap[k]? = some o) (hg : k ∉ bs) : w'.heap[k]? = some o := by
  rw [h.block k (Array.getElem?_eq_some_iff.1 hk).1 hg]; exact hk
theorem ExtS.cell {bs : List Nat} {w w' : World} (h : ExtS bs w w') {p : Addr} {v : Value} (hc : w.cell? p = some v) (hg : p.block ∉ bs) : w'.cell? p = some v := by
  rw [World.cell?_of_block (h.block p.block (lt_of_cell hc) hg)]; exact hc
theorem ExtS.ofB {g : Nat} {bs : List Nat} {w w' : World} (h : ExtB g w w') (hg : g ∈ bs) : ExtS bs w w' := ⟨h.os, h.tape, h.output, h.size, fun k hk hn => h.block k hk fun e => hn (e ▸ hg)⟩
theorem ExtS.toB {g : Nat} {w w' : World} (h : ExtS [g] w w') : ExtB g w w' := ⟨h.os, h.tape, h.output, h.size, fun k hk hn => h.block k hk (by simpa using hn)⟩
structure Cfg where
  S : List Row
  M : List Nat
  /-- wild operations that an operation's Good outlasts: none is all -/
  F : List (Option (List Nat))
  W : List Nat
def survB : Option (List Nat) → Nat → Bool
  | none, _ => true
  | some l, c => l.contains c
def alive (C : Cfg) (j c : Nat) : Bool := survB (C.F.getD j none) c || j == c || waits C.M j c
def lookB (C : Cfg) (k : Nat) (wild : Bool) (js : List (Nat × Tmp)) (ts : List Tmp) (gd : Option (Tmp × Bool)) : Bool :=
  guardOK C.S k gd && (js.all fun p => waits C.M k p.1 && dstS C.S p.1 == some p.2 && C.W.all fun c => alive C p.1 c || c == k || waits C.M c k) && (ts.all fun t => fixOK C.M k t 0 C.S) && (C.W.contains k == wild)
/-- wild operations, and the blocks that they may turn -/
abbrev Rel := List (Nat × Nat)
def Rel.all (gx : Rel) : List Nat := gx.map (·.2)
def Rel.at (gx : Rel) (k : Nat) : List Nat := (gx.filter fun p => p.1 == k).map (·.2)
/-- what may have turned ahead of an operation -/
def Rel.ahead (gx : Rel) (C : Cfg) (k : Nat) : List Nat := (gx.filter fun p => !(p.1 == k || waits C.M p.1 k)).map (·.2)
def Rel.listed (gx : Rel) (l : Array Bool) : List Nat := (gx.filter fun p => l.getD p.1 false).map (·.2)
section
variable {P : Program} {ops : Array Oper} {Q : Exit → Act → World → Prop} {gx : Rel} {Pn : List PanicEntry → World → Prop}
/-- what holds of an operation's value, in that world and in each that keeps what was there -/
structure Good (gx : Rel) where
  G : Value → World → Prop
  st : ∀ v w w', G v w → Ext w w' → G v w'
  surv : Option (List Nat)
  fr : ∀ c, survB surv c = true → ∀ v w w', G v w → ExtS (gx.at c) w w' → G v w'
def Good.of (G : Value → World → Prop) (st : ∀ v w w', G v w → Ext w w' → G v w') : (Good gx) := ⟨G, st, some [], fun _ h => by cases h⟩
/-- one that outlasts a wild operation -/
def Good.past (G : Value → World → Prop) (st : ∀ v w w', G v w → Ext w w' → G v w') (c : Nat) (hc : ∀ v w w', G v w → ExtS (gx.at c) w w' → G v w') : (Good gx) := ⟨G, st, some [c], fun c' h => by
  have : c' = c := by simpa [survB] using h
  subst this; exact hc⟩
/-- one that says nothing of the world -/
def Good.own (G : Value → Prop) : (Good gx) := ⟨fun v _ => G v, fun _ _ _ h _ => h, none, fun _ _ _ _ _ h _ => h⟩
def Good.det (e : Value) : (Good gx) := ⟨fun v _ => v = e, fun _ _ _ h _ => h, none, fun _ _ _ _ _ h _ => h⟩
def Good.any : (Good gx) := ⟨fun _ _ => True, fun _ _ _ _ _ => trivial, none, fun _ _ _ _ _ _ _ => trivial⟩
def good (Gs : List (Good gx)) (j : Nat) : Value → World → Prop := (Gs.getD j Good.any).G
def aliveB (C : Cfg) (j : Nat) : Bool := C.W.all fun c => alive C j c
def goods (Gs : List (Good gx)) (xs : Nat → Value) (w : World) : List (Nat × Tmp) → Prop
  | [] => True
  | (j, _) :: js => good Gs j (xs j) w ∧ goods Gs xs w js

/-- one operation is run, or its callee returns -/
def runs (P : Program) (Pn : List PanicEntry → World → Prop) (ρ : Operand → Value) (o : Oper) (w : World) (K : Value → World → Prop) : Prop :=
  match (execOp ρ o).run P w with
  | .ok (.value v) w' => K v w'
  | .ok .skip w' => K undef w'
  | .ok (.enter f args) w' => Calls P f args w' fun e w'' => (∃ v, e = .returned v ∧ K v w'') ∨ ∃ chain, e = .panicked chain ∧ Pn chain w''
  | _ => False
def sureRun (P : Program) (Pn : List PanicEntry → World → Prop) (gd : Option (Tmp × Bool)) (ρ : Operand → Value) (o : Oper) (w : World) (K : Value → World → Prop) : Prop :=
  match gd with
  | none => runs P Pn ρ o w K
  | some (d, want) => guarded (ρ (.tmp d)) want (runs P Pn ρ o w K) (K undef w)
def seen (V : Nat → (Good gx)) (ρ : Operand → Value) (w : World) : List (Nat × Tmp) → Prop
  | [] => True
  | (j, d) :: js => (V j).G (ρ (.tmp d)) w ∧ seen V ρ w js
/-- what an operation may do to the world -/
def stepW (gx : Rel) (k : Nat) (wild : Bool) (w w' : World) : Prop := match wild with | true => ExtS (gx.at k) w w' | false => Ext w w'
/-- operation k alone, in whatever world -/
def sureOne (P : Program) (Pn : List PanicEntry → World → Prop) (C : Cfg) (V : Nat → (Good gx)) (a0 : Act) (w0 : World) (k : Nat) (o : Oper) (G : (Good gx)) : Prop :=
  ∃ (wild : Bool) (js : List (Nat × Tmp)) (ts : List Tmp) (gd : Option (Tmp × Bool)), lookB C k wild js ts gd = true ∧
    ∀ w, ExtS (gx.ahead C k) w0 w → ∀ ρ, Env ρ → seen V ρ w js → fixed ρ a0 ts → sureRun P Pn gd ρ o w fun v w' => stepW gx k wild w w' ∧ G.G v w'
/-- all of them, in the text's order -/
def sureAll (P : Program) (Pn : List PanicEntry → World → Prop) (C : Cfg) (V : Nat → (Good gx)) (a0 : Act) (w0 : World) : Nat → List Oper → Prop
  | _, [] => True
  | k, o :: rest => sureOne P Pn C V a0 w0 k o (V k) ∧ sureAll P Pn C V a0 w0 (k + 1) rest
/-- what is good at each place -/
def places (V : Nat → (Good gx)) : Nat → List (Good gx) → Prop
  | _, [] => True
  | k, G :: Gs => V k = G ∧ places V (k + 1) Gs

theorem goods_mem {Gs : List (Good gx)} {xs : Nat → Value} {w : World} : ∀ {js : List (Nat × Tmp)}, (∀ p ∈ js, good Gs p.1 (xs p.1) w) → goods Gs xs w js
  | [], _ => trivial
  | p :: js, h => ⟨h p (by simp), goods_mem fun q hq => h q (by simp [hq])⟩

theorem goods_get {Gs : List (Good gx)} {xs : Nat → Value} {w : World} : ∀ {js : List (Nat × Tmp)}, goods Gs xs w js → ∀ {i : Nat} {j : Nat} {d : Tmp}, js[i]? = some (j, d) → good Gs j (xs j) w
  | [], _, i, j, d, h => by simp at h
  | (j0, d0) :: js, hg, i, j, d, h => by
    cases i with
    | zero =>
      obtain ⟨rfl, rfl⟩ : j0 = j ∧ d0 = d := by simpa using h
      exact hg.1
    | succ i => exact goods_get hg.2 (i := i) (j := j) (d := d) (by simpa using h)

structure SureInv (C : Cfg) (ops : Array Oper) (Gs : List (Good gx)) (a0 : Act) (w0 : World) (n : Nat) (listed : Array Bool) (a : Act) (w : World) : Prop where
  size : listed.size = ops.size
  closed : ∀ j oj, ops[j]? = some oj → listed.getD j false = true → ∀ e ∈ oj.after, Region.binds .any e = true → listed.getD e.on false = true
  tail : ∀ t, n ≤ t → listed.getD t false = false
  ext : ExtS (gx.listed listed) w0 w
  defers : a.defers = a0.defers
  tsize : a.tmps.size = a0.tmps.size
  frame : ∀ t, (∀ j, listed.getD j false = true → dstOf ops j ≠ some t) → a.tmps[t]? = a0.tmps[t]?
  good : ∀ j, listed.getD j false = true → (∀ c, c ∈ C.W → listed.getD c false = true → alive C j c = true) → ∃ v, (∀ d, dstOf ops j = some d → a.tmps[d]? = some v) ∧ good Gs j v w

theorem seen_of {V : Nat → (Good gx)} {ρ : Operand → Value} {w : World} : ∀ {js : List (Nat × Tmp)}, (∀ p ∈ js, (V p.1).G (ρ (.tmp p.2)) w) → seen V ρ w js
  | [], _ => trivial
  | p :: js, h => ⟨h p (by simp), seen_of fun q hq => h q (by simp [hq])⟩
/-- one operation, in whatever state the order has led to -/
theorem sure_step {C : Cfg} {Gs : List (Good gx)} {a0 : Act} {w0 : World} {n m : Nat} (S : SureB ops C.M n m) (hS : ops.toList.map rowOf = C.S) (hm : a0.tmps.size = m) (hst : ∀ j v w w', good Gs j v w → Ext w w' → good Gs j v w')
    (hfr : ∀ j c, survB (C.F.getD j none) c = true → ∀ v w w', good Gs j v w → ExtS (gx.at c) w w' → good Gs j v w') (hpan : ∀ chain a w, a.defers = a0.defers → Pn chain w → Q (.panic chain) a w)
    {listed : Array Bool} {a : Act} {w : World} (I : SureInv C ops Gs a0 w0 n listed a w) {k : Nat} {o : Oper} (ho : ops[k]? = some o) (hr : k ∈ Region.ready .any ops listed) (hkn : k < n)
    (h1 : sureOne P Pn C (fun j => Gs.getD j Good.any) a0 w0 k o (Gs.getD k Good.any)) :
    wpOp P ops Q k (fun a' w' => SureInv C ops Gs a0 w0 n (listed.setIfInBounds k true) a' w') a w := by
  obtain ⟨hun, o', ho', hall⟩ := mem_ready.1 hr
  have : o' = o := Option.some.inj (ho'.symm.trans ho)
  subst this
  have hks : k < ops.size := (Array.getElem?_eq_some_iff.1 ho).1
  have hkl : k < listed.size := by rw [I.size]; exact hks
  have hunf := getD_alike hun
  have dep : ∀ j, waits C.M k j = true → listed.getD j false = true := fun j hw => waits_listed S I.closed k o' ho hall j hw
  have undep : ∀ j, waits C.M j k = true → listed.getD j false = false := fun j hw => by
    cases hl : listed.getD j false with
    | false => rfl
    | true => exact absurd (listed_waits S I.size I.closed hl hw) (by rw [hunf]; simp)
  obtain ⟨wild, js, ts, gd, hl, h1⟩ := h1
  simp only [lookB, Bool.and_eq_true, beq_iff_eq] at hl
  obtain ⟨⟨⟨hgd, hl1⟩, hl2⟩, hwild⟩ := hl
  have hseen : seen (fun j => Gs.getD j Good.any) a.eval w js := seen_of fun p hp => by
    have h2 := List.all_eq_true.1 hl1 p hp
    simp only [Bool.and_eq_true, beq_iff_eq] at h2
    obtain ⟨h2, h3⟩ := h2
    rw [dst_eq hS] at h2
    obtain ⟨v, hv, hg⟩ := I.good p.1 (dep p.1 h2.1) (fun c hc hlc => by
      have h4 := List.all_eq_true.1 h3 c hc
      simp only [Bool.or_eq_true, beq_iff_eq] at h4
      rcases h4 with (h4 | h4) | h4
      · exact h4
      · rw [h4, hunf] at hlc; cases hlc
      · rw [undep c h4] at hlc; cases hlc)
    rw [act_eval (hv _ h2.2)]
    exact hg
  have hfix : fixed a.eval a0 ts := fixed_of fun t ht => I.frame t fun j hlj hj => by
    have h2 := fix_spec C.S 0 (List.all_eq_true.1 hl2 t ht) j (by rw [dst_eq hS]; exact hj)
    rw [Nat.zero_add] at h2
    rcases h2 with h2 | h2
    · rw [h2, hunf] at hlj; cases hlj
    · rw [undep j h2] at hlj; cases hlj
  have hhead : ExtS (gx.ahead C k) w0 w := I.ext.mono fun b hb => by
    obtain ⟨p, hp, rfl⟩ := List.mem_map.1 hb
    obtain ⟨hp, hl⟩ := List.mem_filter.1 hp
    refine List.mem_map.2 ⟨p, List.mem_filter.2 ⟨hp, ?_⟩, rfl⟩
    cases hkp : (p.1 == k || waits C.M p.1 k) with
    | false => rfl
    | true =>
      simp only [Bool.or_eq_true, beq_iff_eq] at hkp
      rcases hkp with h2 | h2
      · rw [h2, hunf] at hl; cases hl
      · rw [undep p.1 h2] at hl; cases hl
  have H := h1 w hhead a.eval (act_env a) hseen hfix
  -- behind it
  have next : ∀ v w', stepW gx k wild w w' ∧ (Gs.getD k Good.any).G v w' → SureInv C ops Gs a0 w0 n (listed.setIfInBounds k true) (a.put o'.dst v) w' := fun v w' ⟨hx, hg⟩ => by
    have hup : ∀ b, b ∈ gx.listed listed → b ∈ gx.listed (listed.setIfInBounds k true) := fun b hb => by
      obtain ⟨p, hp, rfl⟩ := List.mem_map.1 hb
      obtain ⟨hp, hl⟩ := List.mem_filter.1 hp
      exact List.mem_map.2 ⟨p, List.mem_filter.2 ⟨hp, getD_set_true hl⟩, rfl⟩
    refine ⟨by simp [I.size], ?_, ?_, by
      refine (I.ext.mono hup).trans ?_
      cases wild
      · exact .of hx
      · refine hx.mono fun b hb => ?_
        obtain ⟨p, hp, rfl⟩ := List.mem_map.1 hb
        obtain ⟨hp, hl⟩ := List.mem_filter.1 hp
        refine List.mem_map.2 ⟨p, List.mem_filter.2 ⟨hp, ?_⟩, rfl⟩
        simp only [beq_iff_eq] at hl
        rw [hl]
        simp [hkl], by rw [put_defers]; exact I.defers, by rw [put_size]; exact I.tsize, ?_, ?_⟩
    · intro j oj hj hl e he hb
      by_cases hkj : k = j
      · subst hkj
        have : oj = o' := Option.some.inj (hj.symm.trans ho)
        subst this
        exact getD_set_true (hall e he hb)
      · rw [getD_set_ne false hkj] at hl
        exact getD_set_true (I.closed j oj hj hl e he hb)
    · intro t ht
      rw [getD_set_ne false (by omega)]
      exact I.tail t ht
    · intro t ht
      have hk' : dstOf ops k ≠ some t := ht k (by simp [hkl])
      rw [dstOf_some ho] at hk'
      have h2 : (a.put o'.dst v).tmps[t]? = a.tmps[t]? := by
        cases hd : o'.dst with
        | none => rfl
        | some d => rw [hd] at hk'; exact put_get_ne _ (fun e => hk' (by rw [e]))
      rw [h2]
      exact I.frame t (fun j hl => ht j (getD_set_true hl))
    · intro j hl hlive
      by_cases hkj : k = j
      · subst hkj
        refine ⟨v, fun d hd => ?_, hg⟩
        rw [dstOf_some ho] at hd
        rw [hd]
        exact put_get_same _ (by rw [I.tsize, hm]; exact S.inside k d (by rw [dstOf_some ho]; exact hd))
      · rw [getD_set_ne false hkj] at hl
        obtain ⟨u, hu, hgu⟩ := I.good j hl (fun c hc hlc => hlive c hc (getD_set_true hlc))
        have hgu' : good Gs j u w' := by
          cases wild with
          | false => exact hst j u w w' hgu hx
          | true =>
            have hkW : k ∈ C.W := by simpa using hwild
            have h4 := hlive k hkW (by simp [hkl])
            simp only [alive, Bool.or_eq_true, beq_iff_eq] at h4
            rcases h4 with (h4 | h4) | h4
            · exact hfr j k h4 u w w' hgu hx
            · exact absurd h4.symm hkj
            · rw [undep j h4] at hl; cases hl
        refine ⟨u, fun d hd => ?_, hgu'⟩
        cases hd' : o'.dst with
        | none => exact hu d hd
        | some d' =>
          rw [put_get_ne _ (fun e => S.apart k j d' hkj (by rw [dstOf_some ho]; exact hd') (by rw [e]; exact hd))]
          exact hu d hd
  have run : runs P Pn a.eval o' w (fun v w' => stepW gx k wild w w' ∧ (Gs.getD k Good.any).G v w') →
      o'.wp P a w (fun a' w' => SureInv C ops Gs a0 w0 n (listed.setIfInBounds k true) a' w') Q := fun H => by
    unfold Oper.wp
    unfold runs at H
    generalize (execOp a.eval o').run P w = r at *
    cases r with
    | ok nx w' =>
      cases nx <;> simp only [Oper.upon] at H ⊢
      case value v => exact next v w' H
      case skip => exact next undef w' H
      case enter f args =>
        refine Calls.mono H fun e w'' he => ?_
        rcases he with ⟨v, rfl, hv⟩ | ⟨chain, rfl, hp⟩
        · exact next v w'' hv
        · exact hpan chain a w'' I.defers hp
    | halt x w' => exact H.elim
  unfold wpOp
  simp only [ho]
  simp only [guardOK, row_at hS ho, rowOf] at hgd
  cases hg : o'.guard with
  | none =>
    rw [hg] at hgd
    cases gd with
    | some p => simp at hgd
    | none =>
      rw [if_pos (by simp [Region.wanted, hg])]
      exact .inl (run H)
  | some gw =>
    obtain ⟨g, want⟩ := gw
    rw [hg] at hgd
    cases gd with
    | none => simp at hgd
    | some p =>
      obtain ⟨d, want'⟩ := p
      simp only [Bool.and_eq_true, beq_iff_eq] at hgd
      obtain ⟨hd, rfl⟩ := hgd
      rw [dst_eq hS] at hd
      have hdm : d < a.tmps.size := by rw [I.tsize, hm]; exact S.inside g d hd
      have hy : yielded ops a.tmps g = (match a.eval (.tmp d) with | .bool b => some b | _ => none) := by
        unfold yielded
        have hd' : (ops[g]?).bind (·.dst) = some d := hd
        rw [hd']
        simp [Act.eval, hdm]
        cases a.tmps[d] <;> rfl
      simp only [sureRun, guarded] at H
      unfold Region.wanted
      simp only [hg, hy]
      split at H
      · rename_i b hb
        by_cases hbw : b = want
        · rw [if_pos hbw] at H
          rw [if_pos (by simp [hb, hbw])]
          exact .inl (run H)
        · rw [if_neg hbw] at H
          rw [if_neg (by simp [hb, hbw])]
          exact next undef w H
      · rw [if_neg (by simp)]
        exact next undef w H

theorem wpAny_sure {C : Cfg} {Gs : List (Good gx)} {a0 : Act} {w0 : World} {n m : Nat} (S : SureB ops C.M n m) (hS : ops.toList.map rowOf = C.S) (hm : a0.tmps.size = m) (hst : ∀ j v w w', good Gs j v w → Ext w w' → good Gs j v w')
    (hfr : ∀ j c, survB (C.F.getD j none) c = true → ∀ v w w', good Gs j v w → ExtS (gx.at c) w w' → good Gs j v w') (hpan : ∀ chain a w, a.defers = a0.defers → Pn chain w → Q (.panic chain) a w)
    (hone : ∀ k o, k < n → ops[k]? = some o → sureOne P Pn C (fun j => Gs.getD j Good.any) a0 w0 k o (Gs.getD k Good.any))
    (hend : ∀ listed a w, SureInv C ops Gs a0 w0 n listed a w → (∀ i, i < n → listed.getD i false = true) → wpAny P .any ops Q (ops.size - n) listed a w) :
    ∀ (c : Nat) (listed : Array Bool) (a : Act) (w : World), SureInv C ops Gs a0 w0 n listed a w → (List.range n).countP (fun i => !listed.getD i false) = c → wpAny P .any ops Q (c + (ops.size - n)) listed a w
  | 0, listed, a, w, I, hc => by
    rw [Nat.zero_add]
    refine hend listed a w I fun i hi => ?_
    have := List.countP_eq_zero.1 hc i (List.mem_range.2 hi)
    simpa using this
  | c + 1, listed, a, w, I, hc => by
    rw [show c + 1 + (ops.size - n) = (c + (ops.size - n)) + 1 by omega]
    -- the least one that is still to come
    have hex : ∃ i, i < n ∧ listed.getD i false = false ∧ ∀ j, j < i → listed.getD j false = true := by
      have hpos : 0 < (List.range n).countP (fun i => !listed.getD i false) := by omega
      obtain ⟨i, hi, hn⟩ := List.countP_pos_iff.1 hpos
      have key : ∀ i, i < n → listed.getD i false = false → ∃ i, i < n ∧ listed.getD i false = false ∧ ∀ j, j < i → listed.getD j false = true := by
        intro i
        induction i using Nat.strongRecOn with
        | _ i ih =>
          intro h1 h2
          by_cases hall : ∀ j, j < i → listed.getD j false = true
          · exact ⟨i, h1, h2, hall⟩
          · have hne : ∃ j, j < i ∧ listed.getD j false = false := by
              rcases Classical.em (∃ j, j < i ∧ listed.getD j false = false) with h | h
              · exact h
              · exact absurd (fun j hj => by
                  cases hq : listed.getD j false with
                  | true => rfl
                  | false => exact absurd ⟨j, hj, hq⟩ h) hall
            obtain ⟨j, hj, hjf⟩ := hne
            exact ih j hj (by omega) hjf
      exact key i (List.mem_range.1 hi) (by simpa using hn)
    obtain ⟨i, hin, hif, hall⟩ := hex
    have his : i < ops.size := Nat.lt_of_lt_of_le hin S.le
    have hir : i ∈ Region.ready .any ops listed := by
      refine mem_ready.2 ⟨?_, ops[i], Array.getElem?_eq_getElem his, fun e he hb => hall e.on (S.edge i ops[i] (Array.getElem?_eq_getElem his) e he hb)⟩
      · have hil : i < listed.size := by rw [I.size]; exact his
        simp [hil] at hif ⊢; exact hif
    refine ⟨fun h => (by rw [h] at hir; cases hir), fun k hk => ?_⟩
    obtain ⟨hkun, o, ho, hkall⟩ := mem_ready.1 hk
    have hks : k < ops.size := (Array.getElem?_eq_some_iff.1 ho).1
    have hkn : k < n := by
      rcases Nat.lt_or_ge k n with h | h
      · exact h
      · have h2 := waits_listed S I.closed k o ho hkall i (S.tail k i h hks (by omega))
        rw [hif] at h2; cases h2
    refine wpOp_mono (fun a' w' I' => wpAny_sure S hS hm hst hfr hpan hone hend c _ a' w' I' ?_) (sure_step S hS hm hst hfr hpan I ho hk hkn (hone k o hkn ho))
    have hkl : k < listed.size := by rw [I.size]; exact hks
    have h2 := countP_less (p := fun i => !listed.getD i false) (q := fun i => !(listed.setIfInBounds k true).getD i false) (k := k)
      (by simp only [getD_alike hkun, Bool.not_false]) (by simp [hkl]) (fun j hj => by simp only [getD_set_ne false (Ne.symm hj)]) n hkn
    omega

theorem places_of (Gs : List (Good gx)) : ∀ (L : List (Good gx)) (k : Nat), (∀ j, L[j]? ≠ none → Gs[k + j]? = L[j]?) → places (fun j => Gs.getD j Good.any) k L
  | [], _, _ => trivial
  | G :: L, k, h => ⟨by
      have := h 0 (by simp)
      simp at this
      simp [this], places_of Gs L (k + 1) fun j hj => by
      have := h (j + 1) (by simpa using hj)
      rw [show k + 1 + j = k + (j + 1) by omega]
      simpa using this⟩
theorem place_from {V : Nat → (Good gx)} : ∀ (L : List (Good gx)) (k0 : Nat), places V k0 L → ∀ (k : Nat) (G : (Good gx)), L[k]? = some G → V (k0 + k) = G
  | [], _, _, k, G, h => by simp at h
  | x :: L, k0, h, k, G, hk => by
    cases k with
    | zero =>
      obtain rfl : x = G := by simpa using hk
      exact h.1
    | succ k =>
      have := place_from L (k0 + 1) h.2 k G (by simpa using hk)
      rw [show k0 + (k + 1) = k0 + 1 + k by omega]
      exact this
theorem place_at {V : Nat → (Good gx)} {Gs : List (Good gx)} (h : places V 0 Gs) {k : Nat} {G : (Good gx)} (hk : Gs[k]? = some G) : V k = G := by
  have := place_from Gs 0 h k G hk
  rwa [Nat.zero_add] at this
theorem sureAll_at {C : Cfg} {V : Nat → (Good gx)} {a0 : Act} {w0 : World} : ∀ (r : List Oper) (k0 : Nat), sureAll P Pn C V a0 w0 k0 r → ∀ k o, r[k]? = some o → sureOne P Pn C V a0 w0 (k0 + k) o (V (k0 + k))
  | [], _, _, k, o, h => by simp at h
  | x :: r, k0, h, k, o, hk => by
    cases k with
    | zero =>
      obtain rfl : x = o := by simpa using hk
      exact h.1
    | succ k =>
      have := sureAll_at r (k0 + 1) h.2 k o (by simpa using hk)
      rw [show k0 + (k + 1) = k0 + 1 + k by omega]
      exact this

/-- A REGION THAT DRAWS ITS ORDER. 'pre', one by one, in whatever order; 'tail' behind them all, in the text's order. -/
theorem wp_region_sure {id : Nat} {a0 : Act} {w : World} {l : List Oper} (C : Cfg) (n m : Nat) (js es : List (Nat × Tmp)) (Gs : List (Good gx)) (hmix : P.follows .mixedOrders = true) (hpan : ∀ chain a w, a.defers = a0.defers → Pn chain w → Q (.panic chain) a w)
    (hS : l.map rowOf = C.S) (hB : sureB C.S C.M n m = true) (hm : a0.tmps.size = m) (hjs : endPairs C.S n = js) (hes : (js.filter fun p => aliveB C p.1) = es) (hF : Gs.map (fun g => g.surv) = C.F)
    (h : ∀ (C' : Cfg) (a' : Act) (V : Nat → (Good gx)), C' = C → a' = a0 → places V 0 Gs → sureAll P Pn C' V a' w.drew 0 (l.take n))
    (hend : ∀ (xs : Nat → Value) (w' : World), ExtS gx.all w.drew w' → goods Gs xs w' es → (∀ j, j < n → aliveB C j = true → ∃ v, good Gs j v w') → wpList P l.toArray Q (l.drop n) (putAll js xs a0) w') :
    (Code.region id l.toArray true).wp P Q a0 w := by
  have hS' : l.toArray.toList.map rowOf = C.S := by simpa using hS
  have B := sureB_spec hS' hB
  have hone := sureAll_at (l.take n) 0 (h C a0 (fun j => Gs.getD j Good.any) rfl rfl (places_of Gs Gs 0 (fun j _ => by rw [Nat.zero_add])))
  have hst : ∀ j v w w', good Gs j v w → Ext w w' → good Gs j v w' := fun j v w w' h hx => (Gs.getD j Good.any).st v w w' h hx
  have hone' : ∀ k o, k < n → l.toArray[k]? = some o → sureOne P Pn C (fun j => Gs.getD j Good.any) a0 w.drew k o (Gs.getD k Good.any) := fun k o hk ho => by
    have := hone k o (by rw [List.getElem?_take]; simp [hk]; simpa using ho)
    simpa using this
  have hfr : ∀ j c, survB (C.F.getD j none) c = true → ∀ v w w', good Gs j v w → ExtS (gx.at c) w w' → good Gs j v w' := fun j c hj v w w' hg hx => by
    refine (Gs.getD j Good.any).fr c ?_ v w w' hg hx
    rw [← hF] at hj
    rcases Nat.lt_or_ge j Gs.length with h' | h'
    · simp [h'] at hj ⊢; exact hj
    · rw [List.getD_eq_getElem?_getD, List.getElem?_eq_none h']; rfl
  refine wp_region_any hmix ?_
  have I0 : SureInv C l.toArray Gs a0 w.drew n (Array.replicate l.toArray.size false) a0 { w with drawn := w.drawn + 1 } := by
    have hf : ∀ j, (Array.replicate l.toArray.size false).getD j false = false := rep_false _
    refine ⟨by simp, fun j oj _ h => (by rw [hf] at h; cases h), fun t _ => hf t, ExtS.refl _ _, rfl, rfl, fun t _ => rfl, fun j h _ => (by rw [hf] at h; cases h)⟩
  have h := wpAny_sure (Q := Q) B hS' hm hst hfr hpan hone' (fun listed a w' I hall => by
    have hpairs : ∀ p ∈ endPairs C.S n, p.1 < n ∧ dstOf l.toArray p.1 = some p.2 := fun p hp => by
      obtain ⟨j, hj, e⟩ := List.mem_filterMap.1 hp
      obtain ⟨d, hd, rfl⟩ := Option.map_eq_some_iff.1 e
      rw [dst_eq hS'] at hd
      exact ⟨List.mem_range.1 hj, hd⟩
    let xs : Nat → Value := fun j => match dstOf l.toArray j with | some d => a.tmps.getD d undef | none => undef
    have hxv : ∀ j d, dstOf l.toArray j = some d → a.tmps[d]? = some (xs j) := fun j d hj => by
      have hd : d < a.tmps.size := by rw [I.tsize, hm]; exact B.inside j d hj
      simp only [xs, hj, Array.getD_eq_getD_getElem?, Array.getElem?_eq_getElem hd, Option.getD_some]
    have hxs : ∀ j d, dstOf l.toArray j = some d → listed.getD j false = true → aliveB C j = true → good Gs j (xs j) w' := fun j d hj hl ha => by
      obtain ⟨v, hv, hg⟩ := I.good j hl (fun c hc _ => List.all_eq_true.1 ha c hc)
      have h2 := hv d hj
      have h3 : xs j = v := Option.some.inj ((hxv j d hj).symm.trans h2)
      rw [h3]
      exact hg
    have hgoods : goods Gs xs w' es := goods_mem fun p hp => by
      rw [← hes, ← hjs] at hp
      obtain ⟨hp, hal⟩ := List.mem_filter.1 hp
      obtain ⟨h1, h2⟩ := hpairs p hp
      exact hxs p.1 p.2 h2 (hall _ h1) hal
    have ha : a = putAll js xs a0 := by
      have ht : a.tmps = (putAll js xs a0).tmps := by
        refine Array.ext_getElem? fun t => ?_
        rw [← hjs]
        by_cases hex : ∃ j, j < n ∧ dstOf l.toArray j = some t
        · obtain ⟨j, hj, hd⟩ := hex
          rw [putAll_in (endPairs C.S n) xs a0 j t (List.mem_filterMap.2 ⟨j, List.mem_range.2 hj, by rw [dst_eq hS', hd]; rfl⟩) (fun p hp hpd => by
            obtain ⟨_, h2⟩ := hpairs p hp
            rw [hpd] at h2
            rcases Nat.decEq p.1 j with h | h
            · exact absurd hd (B.apart p.1 j t h h2)
            · exact h) (by rw [hm]; exact B.inside j t hd)]
          exact hxv j t hd
        · rw [putAll_out _ xs a0 t (fun p hp hpd => by
            obtain ⟨h1, h2⟩ := hpairs p hp
            exact hex ⟨p.1, h1, by rw [← hpd]; exact h2⟩)]
          refine I.frame t fun j hl hj => hex ⟨j, ?_, hj⟩
          rcases Nat.lt_or_ge j n with h | h
          · exact h
          · rw [I.tail j h] at hl; cases hl
      have hd : a.defers = (putAll js xs a0).defers := by rw [putAll_defers]; exact I.defers
      cases a
      cases hq : putAll js xs a0
      rw [hq] at ht hd
      simp only at ht hd
      rw [ht, hd]
    have hlen : l.toArray.size - n = (l.drop n).length := by simp
    rw [hlen, ha]
    exact wpAny_seq B (l.drop n) n _ _ _ (Nat.le_refl _) (by have := B.le; simp at this ⊢; omega) (fun j => by simp) I.size hall (fun j hj => I.tail j hj) (hend xs w' (I.ext.mono fun b hb => by
      obtain ⟨p, hp, rfl⟩ := List.mem_map.1 hb
      exact List.mem_map.2 ⟨p, (List.mem_filter.1 hp).1, rfl⟩) hgoods fun j hj ha => by
      obtain ⟨v, -, hg⟩ := I.good j (hall j hj) (fun c hc _ => List.all_eq_true.1 ha c hc)
      exact ⟨v, hg⟩)) n (Array.replicate l.toArray.size false) a0 _ I0 (by
      have : (fun i => !(Array.replicate l.toArray.size false).getD i false) = fun _ : Nat => true := by
        funext i
        rw [rep_false]; rfl
      rw [this]
      simp)
  have hsz : n + (l.toArray.size - n) = l.toArray.size := by have := B.le; omega
  rw [hsz] at h
  exact h

theorem wp_region_sure_all {id : Nat} {a0 : Act} {w : World} {l : List Oper} (C : Cfg) (n m : Nat) (js es : List (Nat × Tmp)) (Gs : List (Good gx)) (hmix : P.follows .mixedOrders = true) (hpan : ∀ chain a w, a.defers = a0.defers → Pn chain w → Q (.panic chain) a w)
    (hS : l.map rowOf = C.S) (hB : sureB C.S C.M n m = true) (hm : a0.tmps.size = m) (hjs : endPairs C.S n = js) (hes : (js.filter fun p => aliveB C p.1) = es) (hF : Gs.map (fun g => g.surv) = C.F) (hn : l.length = n)
    (h : ∀ (C' : Cfg) (a' : Act) (V : Nat → (Good gx)), C' = C → a' = a0 → places V 0 Gs → sureAll P Pn C' V a' w.drew 0 l)
    (hend : ∀ (xs : Nat → Value) (w' : World), ExtS gx.all w.drew w' → goods Gs xs w' es → (∀ j, j < n → aliveB C j = true → ∃ v, good Gs j v w') → Q .normal (putAll js xs a0) w') :
    (Code.region id l.toArray true).wp P Q a0 w :=
  wp_region_sure C n m js es Gs hmix hpan hS hB hm hjs hes hF (fun C' a' V h1 h2 h3 => by rw [List.take_of_length_le (Nat.le_of_eq hn)]; exact h C' a' V h1 h2 h3)
    (fun xs w' hx hg hq => by rw [List.drop_of_length_le (Nat.le_of_eq hn)]; exact hend xs w' hx hg hq)

theorem run_plain {ρ : Operand → Value} {o : Oper} {w : World} {K : Value → World → Prop} (h : runs P Pn ρ o w K) : sureRun P Pn none ρ o w K := h
theorem run_guarded {ρ : Operand → Value} {o : Oper} {w : World} {K : Value → World → Prop} {d : Tmp} {b : Bool} (hb : ρ (.tmp d) = .bool b) (h : runs P Pn ρ o w K) : sureRun P Pn (some (d, b)) ρ o w K := by
  simp only [sureRun, guarded, hb, if_true]; exact h
theorem run_passed {ρ : Operand → Value} {o : Oper} {w : World} {K : Value → World → Prop} {d : Tmp} {b : Bool} (hb : ρ (.tmp d) = .bool (!b)) (h : K undef w) : sureRun P Pn (some (d, b)) ρ o w K := by
  cases b <;> simp [sureRun, guarded, hb] <;> exact h
theorem op_move {ρ : Operand → Value} {o : Oper} {w : World} {K : Value → World → Prop} {x : Operand} {v : Value} (ho : o.op = .move x) (hx : ρ x = v) (h : K v w) : runs P Pn ρ o w K := by
  subst hx
  unfold runs execOp
  simp only [ho, Sem.run_pure]
  exact h
theorem op_assign {ρ : Operand → Value} {o : Oper} {w : World} {K : Value → World → Prop} {x : Operand} {v : Value} (ho : o.op = .assign x) (hx : ρ x = v) (h : K v w) : runs P Pn ρ o w K := by
  subst hx
  unfold runs execOp
  simp only [ho, Sem.run_pure]
  exact h
theorem op_pick_t {ρ : Operand → Value} {o : Oper} {w : World} {K : Value → World → Prop} {c x y : Operand} {v : Value} (ho : o.op = .pick c x y) (hc : ρ c = .bool true) (hx : ρ x = v) (h : K v w) : runs P Pn ρ o w K := by
  subst hx
  unfold runs execOp
  simp only [ho, hc, asBool, Sem.run_bind, Sem.run_pure, Result.andThen_ok, if_true]
  exact h
theorem op_pick_f {ρ : Operand → Value} {o : Oper} {w : World} {K : Value → World → Prop} {c x y : Operand} {v : Value} (ho : o.op = .pick c x y) (hc : ρ c = .bool false) (hy : ρ y = v) (h : K v w) : runs P Pn ρ o w K := by
  subst hy
  unfold runs execOp
  simp only [ho, hc, asBool, Sem.run_bind, Sem.run_pure, Result.andThen_ok, if_false, Bool.false_eq_true]
  exact h
theorem op_call {ρ : Operand → Value} {o : Oper} {w : World} {K : Value → World → Prop} {f : FuncId} {args : Array Operand} {tys : Array TypeId} {vs : Array Value}
    (ho : o.op = .call { callee := .value (.func f), args := args, argTypes := tys }) (hρ : Env ρ) (hcall : ∀ (args : Array Value) (w : World), (callFunc f args).run P w = .ok (.enter f args) w) (hargs : args.map ρ = vs)
    (h : Calls P f vs w fun e w'' => (∃ v, e = .returned v ∧ K v w'') ∨ ∃ chain, e = .panicked chain ∧ Pn chain w'') : runs P Pn ρ o w K := by
  subst hargs
  unfold runs execOp
  simp only [ho, resolve, Deferred.ofValue, hρ.func, invoke, Sem.run_bind, Sem.run_pure, Result.andThen_ok, hcall, Array.append_empty, Array.empty_append]
  exact h
theorem op_callv {ρ : Operand → Value} {o : Oper} {w : World} {K : Value → World → Prop} {f : FuncId} {c : Operand} {args : Array Operand} {tys : Array TypeId} {vs caps : Array Value}
    (ho : o.op = .call { callee := .value c, args := args, argTypes := tys }) (hc : ρ c = .func (.func f) #[] caps) (hcall : ∀ (args : Array Value) (w : World), (callFunc f args).run P w = .ok (.enter f args) w) (hargs : args.map ρ = vs)
    (h : Calls P f (vs ++ caps) w fun e w'' => (∃ v, e = .returned v ∧ K v w'') ∨ ∃ chain, e = .panicked chain ∧ Pn chain w'') : runs P Pn ρ o w K := by
  subst hargs
  unfold runs execOp
  simp only [ho, resolve, Deferred.ofValue, hc, invoke, Sem.run_bind, Sem.run_pure, Result.andThen_ok, hcall, Array.empty_append]
  exact h
/-- it yields just this, and turns nothing -/
def detK (_gx : Rel) (w : World) (e : Value) : Value → World → Prop := fun v w' => Ext w w' ∧ v = e
theorem detK.mk {w : World} {e : Value} : detK gx w e e w := ⟨Ext.refl _, rfl⟩
theorem detK.ext {w w' : World} {e : Value} (h : Ext w w') : detK gx w e e w' := ⟨h, rfl⟩
def goodK (gx : Rel) (w : World) (G : (Good gx)) : Value → World → Prop := fun v w' => Ext w w' ∧ G.G v w'
def wildK (bs : List Nat) (w : World) (G : (Good gx)) : Value → World → Prop := fun v w' => ExtS bs w w' ∧ G.G v w'
theorem sure_op {a0 : Act} {w0 : World} {o : Oper} {rest : List Oper} {C : Cfg} {V : Nat → (Good gx)} {js : List (Nat × Tmp)} {ts : List Tmp} {gd : Option (Tmp × Bool)} {k : Nat} {G : (Good gx)} {bs : List Nat} (hV : V k = G)
    (hl : lookB C k false js ts gd = true) (hbs : gx.ahead C k = bs)
    (h : ∀ w, ExtS bs w0 w → ∀ ρ, Env ρ → seen V ρ w js → fixed ρ a0 ts → sureRun P Pn gd ρ o w (goodK gx w G))
    (hr : sureAll P Pn C V a0 w0 (k + 1) rest) : sureAll P Pn C V a0 w0 k (o :: rest) := ⟨⟨false, js, ts, gd, hl, by rw [hV]; exact fun w hw => h w (hbs ▸ hw)⟩, hr⟩
theorem sure_wild {a0 : Act} {w0 : World} {o : Oper} {rest : List Oper} {C : Cfg} {V : Nat → (Good gx)} {js : List (Nat × Tmp)} {ts : List Tmp} {gd : Option (Tmp × Bool)} {k : Nat} {G : (Good gx)} {bs cs : List Nat} (hV : V k = G)
    (hl : lookB C k true js ts gd = true) (hbs : gx.ahead C k = bs) (hcs : gx.at k = cs)
    (h : ∀ w, ExtS bs w0 w → ∀ ρ, Env ρ → seen V ρ w js → fixed ρ a0 ts → sureRun P Pn gd ρ o w (wildK cs w G))
    (hr : sureAll P Pn C V a0 w0 (k + 1) rest) : sureAll P Pn C V a0 w0 k (o :: rest) := by
  subst hcs
  exact ⟨⟨true, js, ts, gd, hl, by rw [hV]; exact fun w hw => h w (hbs ▸ hw)⟩, hr⟩
/-- one that yields just this, and turns nothing -/
theorem sure_det {a0 : Act} {w0 : World} {o : Oper} {rest : List Oper} {C : Cfg} {V : Nat → (Good gx)} {js : List (Nat × Tmp)} {ts : List Tmp} {gd : Option (Tmp × Bool)} {k : Nat} {e : Value} {bs : List Nat} (hV : V k = .det e)
    (hl : lookB C k false js ts gd = true) (hbs : gx.ahead C k = bs)
    (h : ∀ w, ExtS bs w0 w → ∀ ρ, Env ρ → seen V ρ w js → fixed ρ a0 ts → sureRun P Pn gd ρ o w (detK gx w e))
    (hr : sureAll P Pn C V a0 w0 (k + 1) rest) : sureAll P Pn C V a0 w0 k (o :: rest) :=
  sure_op hV hl hbs (fun w hw ρ hρ hs hfx => by
    have := h w hw ρ hρ hs hfx
    have mono : ∀ (A : Value → World → Prop) (B : Value → World → Prop), (∀ v w', A v w' → B v w') → sureRun P Pn gd ρ o w A → sureRun P Pn gd ρ o w B := fun A B hAB => by
      have hruns : runs P Pn ρ o w A → runs P Pn ρ o w B := by
        unfold runs
        split
        · exact hAB _ _
        · exact hAB _ _
        · exact fun hc => Calls.mono hc fun e w'' he => he.elim (fun ⟨v, he, ha⟩ => .inl ⟨v, he, hAB _ _ ha⟩) .inr
        · exact id
      unfold sureRun
      cases gd with
      | none => exact hruns
      | some p =>
        simp only [guarded]
        split
        · split
          · exact hruns
          · exact hAB _ _
        · exact hAB _ _
    exact mono _ _ (fun v w' ⟨h1, h2⟩ => ⟨h1, h2⟩) this) hr
end
end Go.Proofs.Ytjokaginolpbeaa.SB
