import Derived.Test.YtennnhfaghdeoaaPlayDo
namespace Go.Proofs.Ytennnhfaghdeoaa.SB
open Go.RowKit Go.Proofs.Ytennnhfaghdeoaa

/-! XSure again, where an operation may also turn one block 'gx' that was there, and a call may panic ('Pn'). -/
/-- as it was, but for some blocks -/
structure ExtS (bs : List Nat) (w w' : World) : Prop where
  os : w'.os = w.os
  tape : w'.tape = w.tape
  output : w'.output = w.output
  size : w.heap.size ≤ w'.heap.size
  block : ∀ k, k < w.heap.size → k ∉ bs → w'.heap[k]? = w.heap[k]?
theorem ExtS.refl (bs : List Nat) (w : World) : ExtS bs w w := ⟨rfl, rfl, rfl, Nat.le_refl _, fun _ _ _ => rfl⟩
theorem ExtS.of {bs : List Nat} {w w' : World} (h : Ext w w') : ExtS bs w w' := ⟨h.os, h.tape, h.output, h.size, fun k hk _ => h.block k hk⟩
theorem ExtS.mono {bs cs : List Nat} {w w' : World} (h : ExtS bs w w') (hs : ∀ b, b ∈ bs → b ∈ cs) : ExtS cs w w' := ⟨h.os, h.tape, h.output, h.size, fun k hk hn => h.block k hk fun hb => hn (hs k hb)⟩
theorem ExtS.trans {bs : List Nat} {a b c : World} (h : ExtS bs a b) (k : ExtS bs b c) : ExtS bs a c :=
  ⟨k.os.trans h.os, k.tape.trans h.tape, k.output.trans h.output, Nat.le_trans h.size k.size, fun i hi hg => (k.block i (Nat.lt_of_lt_of_le hi h.size) hg).trans (h.block i hi hg)⟩
theorem ExtS.ext {w w' : World} (h : ExtS [] w w') : Ext w w' := ⟨h.os, h.tape, h.output, h.size, fun k hk => h.block k hk (by simp)⟩
theorem ExtS.heap {bs : List Nat} {w w' : World} (h : ExtS bs w w') {k : Nat} {o : Obj} (hk : w.heap[k]? = some o) (hg : k ∉ bs) : w'.heap[k]? = some o := by
  rw [h.block k (Array.getElem?_eq_some_iff.1 hk).1 hg]; exact hk
theorem ExtS.cell {bs : List Nat} {w w' : World} (h : ExtS bs w w') {p : Addr} {v : Value} (hc : w.cell? p = some v) (hg : p.block ∉ bs) : w'.cell? p = some v := by
  rw [World.cell?_of_block (h.block p.block (lt_of_cell hc) hg)]; exact hc
theorem ExtS.ofB {g : Nat} {bs : List Nat} {w w' : World} (h : ExtB g w w') (hg : g ∈ bs) : ExtS bs w w' := ⟨h.os, h.tape, h.output, h.size, fun k hk hn => h.block k hk fun e => hn (e ▸ hg)⟩
theorem ExtS.toB {g : Nat} {w w' : World} (h : ExtS [g] w w') : ExtB g w w' := ⟨h.os, h.tape, h.output, h.size, fun k hk hn => h.block k hk (by simpa using hn)⟩
structure Cfg where
  S : List Row
  M : List Nat
  /-- wild operations that an operation's Good outlasts: none is all -/
  F : List (Option (List Nat))
  W : List Nat
def survB : Option (List Nat) → Nat → Bool
  | none, _ => true
  | some l, c => l.contains c
def alive (C : Cfg) (j c : Nat) : Bool := survB (C.F.getD j none) c || j == c || waits C.M j c
def lookB (C : Cfg) (k : Nat) (wild : Bool) (js : List (Nat × Tmp)) (ts : List Tmp) (gd : Option (Tmp × Bool)) : Bool :=
  guardOK C.S k gd && (js.all fun p => waits C.M k p.1 && dstS C.S p.1 == some p.2 && C.W.all fun c => alive C p.1 c || c == k || waits C.M c k) && (ts.all fun t => fixOK C.M k t 0 C.S) && (C.W.contains k == wild)
/-- wild operations, and the blocks that they may turn -/
abbrev Rel := List (Nat × Nat)
def Rel.all (gx : Rel) : List Nat := gx.map (·.2)
def Rel.at (gx : Rel) (k : Nat) : List Nat := (gx.filter fun p => p.1 == k).map (·.2)
/-- what may have turned ahead of an operation -/
def Rel.ahead (gx : Rel) (C : Cfg) (k : Nat) : List Nat := (gx.filter fun p => !(p.1 == k || waits C.M p.1 k)).map (·.2)
def Rel.listed (gx : Rel) (l : Array Bool) : List Nat := (gx.filter fun p => l.getD p.1 false).map (·.2)
section
variable {P : Program} {ops : Array Oper} {Q : Exit → Act → World → Prop} {gx : Rel} {Pn : List PanicEntry → World → Prop}
/-- what holds of an operation's value, in that world and in each that keeps what was there -/
structure Good (gx : Rel) where
  G : Value → World → Prop
  st : ∀ v w w', G v w → Ext w w' → G v w'
  surv : Option (List Nat)
  fr : ∀ c, survB surv c = true → ∀ v w w', G v w → ExtS (gx.at c) w w' → G v w'
def Good.of (G : Value → World → Prop) (st : ∀ v w w', G v w → Ext w w' → G v w') : (Good gx) := ⟨G, st, some [], fun _ h => by cases h⟩
/-- one that outlasts a wild operation -/
def Good.past (G : Value → World → Prop) (st : ∀ v w w', G v w → Ext w w' → G v w') (c : Nat) (hc : ∀ v w w', G v w → ExtS (gx.at c) w w' → G v w') : (Good gx) := ⟨G, st, some [c], fun c' h => by
  have : c' = c := by simpa [survB] using h
  subst this; exact hc⟩
/-- one that says nothing of the world -/
def Good.own (G : Value → Prop) : (Good gx) := ⟨fun v _ => G v, fun _ _ _ h _ => h, none, fun _ _ _ _ _ h _ => h⟩
def Good.det (e : Value) : (Good gx) := ⟨fun v _ => v = e, fun _ _ _ h _ => h, none, fun _ _ _ _ _ h _ => h⟩
def Good.any : (Good gx) := ⟨fun _ _ => True, fun _ _ _ _ _ => trivial, none, fun _ _ _ _ _ _ _ => trivial⟩
def good (Gs : List (Good gx)) (j : Nat) : Value → World → Prop := (Gs.getD j Good.any).G
def aliveB (C : Cfg) (j : Nat) : Bool := C.W.all fun c => alive C j c
def goods (Gs : List (Good gx)) (xs : Nat → Value) (w : World) : List (Nat × Tmp) → Prop
  | [] => True
  | (j, _) :: js => good Gs j (xs j) w ∧ goods Gs xs w js

/-- one operation is run, or its callee returns -/
def runs (P : Program) (Pn : List PanicEntry → World → Prop) (ρ : Operand → Value) (o : Oper) (w : World) (K : Value → World → Prop) : Prop :=
  match (execOp ρ o).run P w with
  | .ok (.value v) w' => K v w'
  | .ok .skip w' => K undef w'
  | .ok (.enter f args) w' => Calls P f args w' fun e w'' => (∃ v, e = .returned v ∧ K v w'') ∨ ∃ chain, e = .panicked chain ∧ Pn chain w''
  | _ => False
def sureRun (P : Program) (Pn : List PanicEntry → World → Prop) (gd : Option (Tmp × Bool)) (ρ : Operand → Value) (o : Oper) (w : World) (K : Value → World → Prop) : Prop :=
  match gd with
  | none => runs P Pn ρ o w K
  | some (d, want) => guarded (ρ (.tmp d)) want (runs P Pn ρ o w K) (K undef w)
def seen (V : Nat → (Good gx)) (ρ : Operand → Value) (w : World) : List (Nat × Tmp) → Prop
  | [] => True
  | (j, d) :: js => (V j).G (ρ (.tmp d)) w ∧ seen V ρ w js
/-- what an operation may do to the world -/
def stepW (gx : Rel) (k : Nat) (wild : Bool) (w w' : World) : Prop := match wild with | true => ExtS (gx.at k) w w' | false => Ext w w'
/-- operation k alone, in whatever world -/
def sureOne (P : Program) (Pn : List PanicEntry → World → Prop) (C : Cfg) (V : Nat → (Good gx)) (a0 : Act) (w0 : World) (k : Nat) (o : Oper) (G : (Good gx)) : Prop :=
  ∃ (wild : Bool) (js : List (Nat × Tmp)) (ts : List Tmp) (gd : Option (Tmp × Bool)), lookB C k wild js ts gd = true ∧
    ∀ w, ExtS (gx.ahead C k) w0 w → ∀ ρ, Env ρ → seen V ρ w js → fixed ρ a0 ts → sureRun P Pn gd ρ o w fun v w' => stepW gx k wild w w' ∧ G.G v w'
/-- all of them, in the text's order -/
def sureAll (P : Program) (Pn : List PanicEntry → World → Prop) (C : Cfg) (V : Nat → (Good gx)) (a0 : Act) (w0 : World) : Nat → List Oper → Prop
  | _, [] => True
  | k, o :: rest => sureOne P Pn C V a0 w0 k o (V k) ∧ sureAll P Pn C V a0 w0 (k + 1) rest
/-- what is good at each place -/
def places (V : Nat → (Good gx)) : Nat → List (Good gx) → Prop
  | _, [] => True
  | k, G :: Gs => V k = G ∧ places V (k + 1) Gs

theorem goods_mem {Gs : List (Good gx)} {xs : Nat → Value} {w : World} : ∀ {js : List (Nat × Tmp)}, (∀ p ∈ js, good Gs p.1 (xs p.1) w) → goods Gs xs w js
  | [], _ => trivial
  | p :: js, h => ⟨h p (by simp), goods_mem fun q hq => h q (by simp [hq])⟩

theorem goods_get {Gs : List (Good gx)} {xs : Nat → Value} {w : World} : ∀ {js : List (Nat × Tmp)}, goods Gs xs w js → ∀ {i : Nat} {j : Nat} {d : Tmp}, js[i]? = some (j, d) → good Gs j (xs j) w
  | [], _, i, j, d, h => by simp at h
  | (j0, d0) :: js, hg, i, j, d, h => by
    cases i with
    | zero =>
      obtain ⟨rfl, rfl⟩ : j0 = j ∧ d0 = d := by simpa using h
      exact hg.1
    | succ i => exact goods_get hg.2 (i := i) (j := j) (d := d) (by simpa using h)

structure SureInv (C : Cfg) (ops : Array Oper) (Gs : List (Good gx)) (a0 : Act) (w0 : World) (n : Nat) (listed : Array Bool) (a : Act) (w : World) : Prop where
  size : listed.size = ops.size
  closed : ∀ j oj, ops[j]? = some oj → listed.getD j false = true → ∀ e ∈ oj.after, Region.binds .any e = true → listed.getD e.on false = true
  tail : ∀ t, n ≤ t → listed.getD t false = false
  ext : ExtS (gx.listed listed) w0 w
  defers : a.defers = a0.defers
  tsize : a.tmps.size = a0.tmps.size
  frame : ∀ t, (∀ j, listed.getD j false = true → dstOf ops j ≠ some t) → a.tmps[t]? = a0.tmps[t]?
  good : ∀ j, listed.getD j false = true → (∀ c, c ∈ C.W → listed.getD c false = true → alive C j c = true) → ∃ v, (∀ d, dstOf ops j = some d → a.tmps[d]? = some v) ∧ good Gs j v w

theorem seen_of {V : Nat → (Good gx)} {ρ : Operand → Value} {w : World} : ∀ {js : List (Nat × Tmp)}, (∀ p ∈ js, (V p.1).G (ρ (.tmp p.2)) w) → seen V ρ w js
  | [], _ => trivial
  | p :: js, h => ⟨h p (by simp), seen_of fun q hq => h q (by simp [hq])⟩
/-- one operation, in whatever state the order has led to -/
theorem sure_step {C : Cfg} {Gs : List (Good gx)} {a0 : Act} {w0 : World} {n m : Nat} (S : SureB ops C.M n m) (hS : ops.toList.map rowOf = C.S) (hm : a0.tmps.size = m) (hst : ∀ j v w w', good Gs j v w → Ext w w' → good Gs j v w')
    (hfr : ∀ j c, survB (C.F.getD j none) c = true → ∀ v w w', good Gs j v w → ExtS (gx.at c) w w' → good Gs j v w') (hpan : ∀ chain a w, a.defers = a0.defers → Pn chain w → Q (.panic chain) a w)
    {listed : Array Bool} {a : Act} {w : World} (I : SureInv C ops Gs a0 w0 n listed a w) {k : Nat} {o : Oper} (ho : ops[k]? = some o) (hr : k ∈ Region.ready .any ops listed) (hkn : k < n)
    (h1 : sureOne P Pn C (fun j => Gs.getD j Good.any) a0 w0 k o (Gs.getD k Good.any)) :
    wpOp P ops Q k (fun a' w' => SureInv C ops Gs a0 w0 n (listed.setIfInBounds k true) a' w') a w := by
  obtain ⟨hun, o', ho', hall⟩ := mem_ready.1 hr
  have : o' = o := Option.some.inj (ho'.symm.trans ho)
  subst this
  have hks : k < ops.size := (Array.getElem?_eq_some_iff.1 ho).1
  have hkl : k < listed.size := by rw [I.size]; exact hks
  have hunf := getD_alike hun
  have dep : ∀ j, waits C.M k j = true → listed.getD j false = true := fun j hw => waits_listed S I.closed k o' ho hall j hw
  have undep : ∀ j, waits C.M j k = true → listed.getD j false = false := fun j hw => by
    cases hl : listed.getD j false with
    | false => rfl
    | true => exact absurd (listed_waits S I.size I.closed hl hw) (by rw [hunf]; simp)
  obtain ⟨wild, js, ts, gd, hl, h1⟩ := h1
  simp only [lookB, Bool.and_eq_true, beq_iff_eq] at hl
  obtain ⟨⟨⟨hgd, hl1⟩, hl2⟩, hwild⟩ := hl
  have hseen : seen (fun j => Gs.getD j Good.any) a.eval w js := seen_of fun p hp => by
    have h2 := List.all_eq_true.1 hl1 p hp
    simp only [Bool.and_eq_true, beq_iff_eq] at h2
    obtain ⟨h2, h3⟩ := h2
    rw [dst_eq hS] at h2
    obtain ⟨v, hv, hg⟩ := I.good p.1 (dep p.1 h2.1) (fun c hc hlc => by
      have h4 := List.all_eq_true.1 h3 c hc
      simp only [Bool.or_eq_true, beq_iff_eq] at h4
      rcases h4 with (h4 | h4) | h4
      · exact h4
      · rw [h4, hunf] at hlc; cases hlc
      · rw [undep c h4] at hlc; cases hlc)
    rw [act_eval (hv _ h2.2)]
    exact hg
  have hfix : fixed a.eval a0 ts := fixed_of fun t ht => I.frame t fun j hlj hj => by
    have h2 := fix_spec C.S 0 (List.all_eq_true.1 hl2 t ht) j (by rw [dst_eq hS]; exact hj)
    rw [Nat.zero_add] at h2
    rcases h2 with h2 | h2
    · rw [h2, hunf] at hlj; cases hlj
    · rw [undep j h2] at hlj; cases hlj
  have hhead : ExtS (gx.ahead C k) w0 w := I.ext.mono fun b hb => by
    obtain ⟨p, hp, rfl⟩ := List.mem_map.1 hb
    obtain ⟨hp, hl⟩ := List.mem_filter.1 hp
    refine List.mem_map.2 ⟨p, List.mem_filter.2 ⟨hp, ?_⟩, rfl⟩
    cases hkp : (p.1 == k || waits C.M p.1 k) with
    | false => rfl
    | true =>
      simp only [Bool.or_eq_true, beq_iff_eq] at hkp
      rcases hkp with h2 | h2
      · rw [h2, hunf] at hl; cases hl
      · rw [undep p.1 h2] at hl; cases hl
  have H := h1 w hhead a.eval (act_env a) hseen hfix
  -- behind it
  have next : ∀ v w', stepW gx k wild w w' ∧ (Gs.getD k Good.any).G v w' → SureInv C ops Gs a0 w0 n (listed.setIfInBounds k true) (a.put o'.dst v) w' := fun v w' ⟨hx, hg⟩ => by
    have hup : ∀ b, b ∈ gx.listed listed → b ∈ gx.listed (listed.setIfInBounds k true) := fun b hb => by
      obtain ⟨p, hp, rfl⟩ := List.mem_map.1 hb
      obtain ⟨hp, hl⟩ := List.mem_filter.1 hp
      exact List.mem_map.2 ⟨p, List.mem_filter.2 ⟨hp, getD_set_true hl⟩, rfl⟩
    refine ⟨by simp [I.size], ?_, ?_, by
      refine (I.ext.mono hup).trans ?_
      cases wild
      · exact .of hx
      · refine hx.mono fun b hb => ?_
        obtain ⟨p, hp, rfl⟩ := List.mem_map.1 hb
        obtain ⟨hp, hl⟩ := List.mem_filter.1 hp
        refine List.mem_map.2 ⟨p, List.mem_filter.2 ⟨hp, ?_⟩, rfl⟩
        simp only [beq_iff_eq] at hl
        rw [hl]
        simp [hkl], by rw [put_defers]; exact I.defers, by rw [put_size]; exact I.tsize, ?_, ?_⟩
    · intro j oj hj hl e he hb
      by_cases hkj : k = j
      · subst hkj
        have : oj = o' := Option.some.inj (hj.symm.trans ho)
        subst this
        exact getD_set_true (hall e he hb)
      · rw [getD_set_ne false hkj] at hl
        exact getD_set_true (I.closed j oj hj hl e he hb)
    · intro t ht
      rw [getD_set_ne false (by omega)]
      exact I.tail t ht
    · intro t ht
      have hk' : dstOf ops k ≠ some t := ht k (by simp [hkl])
      rw [dstOf_some ho] at hk'
      have h2 : (a.put o'.dst v).tmps[t]? = a.tmps[t]? := by
        cases hd : o'.dst with
        | none => rfl
        | some d => rw [hd] at hk'; exact put_get_ne _ (fun e => hk' (by rw [e]))
      rw [h2]
      exact I.frame t (fun j hl => ht j (getD_set_true hl))
    · intro j hl hlive
      by_cases hkj : k = j
      · subst hkj
        refine ⟨v, fun d hd => ?_, hg⟩
        rw [dstOf_some ho] at hd
        rw [hd]
        exact put_get_same _ (by rw [I.tsize, hm]; exact S.inside k d (by rw [dstOf_some ho]; exact hd))
      · rw [getD_set_ne false hkj] at hl
        obtain ⟨u, hu, hgu⟩ := I.good j hl (fun c hc hlc => hlive c hc (getD_set_true hlc))
        have hgu' : good Gs j u w' := by
          cases wild with
          | false => exact hst j u w w' hgu hx
          | true =>
            have hkW : k ∈ C.W := by simpa using hwild
            have h4 := hlive k hkW (by simp [hkl])
            simp only [alive, Bool.or_eq_true, beq_iff_eq] at h4
            rcases h4 with (h4 | h4) | h4
            · exact hfr j k h4 u w w' hgu hx
            · exact absurd h4.symm hkj
            · rw [undep j h4] at hl; cases hl
        refine ⟨u, fun d hd => ?_, hgu'⟩
        cases hd' : o'.dst with
        | none => exact hu d hd
        | some d' =>
          rw [put_get_ne _ (fun e => S.apart k j d' hkj (by rw [dstOf_some ho]; exact hd') (by rw [e]; exact hd))]
          exact hu d hd
  have run : runs P Pn a.eval o' w (fun v w' => stepW gx k wild w w' ∧ (Gs.getD k Good.any).G v w') →
      o'.wp P a w (fun a' w' => SureInv C ops Gs a0 w0 n (listed.setIfInBounds k true) a' w') Q := fun H => by
    unfold Oper.wp
    unfold runs at H
    generalize (execOp a.eval o').run P w = r at *
    cases r with
    | ok nx w' =>
      cases nx <;> simp only [Oper.upon] at H ⊢
      case value v => exact next v w' H
      case skip => exact next undef w' H
      case enter f args =>
        refine Calls.mono H fun e w'' he => ?_
        rcases he with ⟨v, rfl, hv⟩ | ⟨chain, rfl, hp⟩
        · exact next v w'' hv
        · exact hpan chain a w'' I.defers hp
    | halt x w' => exact H.elim
  unfold wpOp
  simp only [ho]
  simp only [guardOK, row_at hS ho, rowOf] at hgd
  cases hg : o'.guard with
  | none =>
    rw [hg] at hgd
    cases gd with
    | some p => simp at hgd
    | none =>
      rw [if_pos (by simp [Region.wanted, hg])]
      exact .inl (run H)
  | some gw =>
    obtain ⟨g, want⟩ := gw
    rw [hg] at hgd
    cases gd with
    | none => simp at hgd
    | some p =>
      obtain ⟨d, want'⟩ := p
      simp only [Bool.and_eq_true, beq_iff_eq] at hgd
      obtain ⟨hd, rfl⟩ := hgd
      rw [dst_eq hS] at hd
      have hdm : d < a.tmps.size := by rw [I.tsize, hm]; exact S.inside g d hd
      have hy : yielded ops a.tmps g = (match a.eval (.tmp d) with | .bool b => some b | _ => none) := by
        unfold yielded
        have hd' : (ops[g]?).bind (·.dst) = some d := hd
        rw [hd']
        simp [Act.eval, hdm]
        cases a.tmps[d] <;> rfl
      simp only [sureRun, guarded] at H
      unfold Region.wanted
      simp only [hg, hy]
      split at H
      · rename_i b hb
        by_cases hbw : b = want
        · rw [if_pos hbw] at H
          rw [if_pos (by simp [hb, hbw])]
          exact .inl (run H)
        · rw [if_neg hbw] at H
          rw [if_neg (by simp [hb, hbw])]
          exact next undef w H
      · rw [if_neg (by simp)]
        exact next undef w H

theorem wpAny_sure {C : Cfg} {Gs : List (Good gx)} {a0 : Act} {w0 : World} {n m : Nat} (S : SureB ops C.M n m) (hS : ops.toList.map rowOf = C.S) (hm : a0.tmps.size = m) (hst : ∀ j v w w', good Gs j v w → Ext w w' → good Gs j v w')
    (hfr : ∀ j c, survB (C.F.getD j none) c = true → ∀ v w w', good Gs j v w → ExtS (gx.at c) w w' → good Gs j v w') (hpan : ∀ chain a w, a.defers = a0.defers → Pn chain w → Q (.panic chain) a w)
    (hone : ∀ k o, k < n → ops[k]? = some o → sureOne P Pn C (fun j => Gs.getD j Good.any) a0 w0 k o (Gs.getD k Good.any))
    (hend : ∀ listed a w, SureInv C ops Gs a0 w0 n listed a w → (∀ i, i < n → listed.getD i false = true) → wpAny P .any ops Q (ops.size - n) listed a w) :
    ∀ (c : Nat) (listed : Array Bool) (a : Act) (w : World), SureInv C ops Gs a0 w0 n listed a w → (List.range n).countP (fun i => !listed.getD i false) = c → wpAny P .any ops Q (c + (ops.size - n)) listed a w
  | 0, listed, a, w, I, hc => by
    rw [Nat.zero_add]
    refine hend listed a w I fun i hi => ?_
    have := List.countP_eq_zero.1 hc i (List.mem_range.2 hi)
    simpa using this
  | c + 1, listed, a, w, I, hc => by
    rw [show c + 1 + (ops.size - n) = (c + (ops.size - n)) + 1 by omega]
    -- the least one that is still to come
    have hex : ∃ i, i < n ∧ listed.getD i false = false ∧ ∀ j, j < i → listed.getD j false = true := by
      have hpos : 0 < (List.range n).countP (fun i => !listed.getD i false) := by omega
      obtain ⟨i, hi, hn⟩ := List.countP_pos_iff.1 hpos
      have key : ∀ i, i < n → listed.getD i false = false → ∃ i, i < n ∧ listed.getD i false = false ∧ ∀ j, j < i → listed.getD j false = true := by
        intro i
        induction i using Nat.strongRecOn with
        | _ i ih =>
          intro h1 h2
          by_cases hall : ∀ j, j < i → listed.getD j false = true
          · exact ⟨i, h1, h2, hall⟩
          · have hne : ∃ j, j < i ∧ listed.getD j false = false := by
              rcases Classical.em (∃ j, j < i ∧ listed.getD j false = false) with h | h
              · exact h
              · exact absurd (fun j hj => by
                  cases hq : listed.getD j false with
                  | true => rfl
                  | false => exact absurd ⟨j, hj, hq⟩ h) hall
            obtain ⟨j, hj, hjf⟩ := hne
            exact ih j hj (by omega) hjf
      exact key i (List.mem_range.1 hi) (by simpa using hn)
    obtain ⟨i, hin, hif, hall⟩ := hex
    have his : i < ops.size := Nat.lt_of_lt_of_le hin S.le
    have hir : i ∈ Region.ready .any ops listed := by
      refine mem_ready.2 ⟨?_, ops[i], Array.getElem?_eq_getElem his, fun e he hb => hall e.on (S.edge i ops[i] (Array.getElem?_eq_getElem his) e he hb)⟩
      · have hil : i < listed.size := by rw [I.size]; exact his
        simp [hil] at hif ⊢; exact hif
    refine ⟨fun h => (by rw [h] at hir; cases hir), fun k hk => ?_⟩
    obtain ⟨hkun, o, ho, hkall⟩ := mem_ready.1 hk
    have hks : k < ops.size := (Array.getElem?_eq_some_iff.1 ho).1
    have hkn : k < n := by
      rcases Nat.lt_or_ge k n with h | h
      · exact h
      · have h2 := waits_listed S I.closed k o ho hkall i (S.tail k i h hks (by omega))
        rw [hif] at h2; cases h2
    refine wpOp_mono (fun a' w' I' => wpAny_sure S hS hm hst hfr hpan hone hend c _ a' w' I' ?_) (sure_step S hS hm hst hfr hpan I ho hk hkn (hone k o hkn ho))
    have hkl : k < listed.size := by rw [I.size]; exact hks
    have h2 := countP_less (p := fun i => !listed.getD i false) (q := fun i => !(listed.setIfInBounds k true).getD i false) (k := k)
      (by simp only [getD_alike hkun, Bool.not_false]) (by simp [hkl]) (fun j hj => by simp only [getD_set_ne false (Ne.symm hj)]) n hkn
    omega

theorem places_of (Gs : List (Good gx)) : ∀ (L : List (Good gx)) (k : Nat), (∀ j, L[j]? ≠ none → Gs[k + j]? = L[j]?) → places (fun j => Gs.getD j Good.any) k L
  | [], _, _ => trivial
  | G :: L, k, h => ⟨by
      have := h 0 (by simp)
      simp at this
      simp [this], places_of Gs L (k + 1) fun j hj => by
      have := h (j + 1) (by simpa using hj)
      rw [show k + 1 + j = k + (j + 1) by omega]
      simpa using this⟩
theorem place_from {V : Nat → (Good gx)} : ∀ (L : List (Good gx)) (k0 : Nat), places V k0 L → ∀ (k : Nat) (G : (Good gx)), L[k]? = some G → V (k0 + k) = G
  | [], _, _, k, G, h => by simp at h
  | x :: L, k0, h, k, G, hk => by
    cases k with
    | zero =>
      obtain rfl : x = G := by simpa using hk
      exact h.1
    | succ k =>
      have := place_from L (k0 + 1) h.2 k G (by simpa using hk)
      rw [show k0 + (k + 1) = k0 + 1 + k by omega]
      exact this
theorem place_at {V : Nat → (Good gx)} {Gs : List (Good gx)} (h : places V 0 Gs) {k : Nat} {G : (Good gx)} (hk : Gs[k]? = some G) : V k = G := by
  have := place_from Gs 0 h k G hk
  rwa [Nat.zero_add] at this
theorem sureAll_at {C : Cfg} {V : Nat → (Good gx)} {a0 : Act} {w0 : World} : ∀ (r : List Oper) (k0 : Nat), sureAll P Pn C V a0 w0 k0 r → ∀ k o, r[k]? = some o → sureOne P Pn C V a0 w0 (k0 + k) o (V (k0 + k))
  | [], _, _, k, o, h => by simp at h
  | x :: r, k0, h, k, o, hk => by
    cases k with
    | zero =>
      obtain rfl : x = o := by simpa using hk
      exact h.1
    | succ k =>
      have := sureAll_at r (k0 + 1) h.2 k o (by simpa using hk)
      rw [show k0 + (k + 1) = k0 + 1 + k by omega]
      exact this

/-- A REGION THAT DRAWS ITS ORDER. 'pre', one by one, in whatever order; 'tail' behind them all, in the text's order. -/
theorem wp_region_sure {id : Nat} {a0 : Act} {w : World} {l : List Oper} (C : Cfg) (n m : Nat) (js es : List (Nat × Tmp)) (Gs : List (Good gx)) (hmix : P.follows .mixedOrders = true) (hpan : ∀ chain a w, a.defers = a0.defers → Pn chain w → Q (.panic chain) a w)
    (hS : l.map rowOf = C.S) (hB : sureB C.S C.M n m = true) (hm : a0.tmps.size = m) (hjs : endPairs C.S n = js) (hes : (js.filter fun p => aliveB C p.1) = es) (hF : Gs.map (fun g => g.surv) = C.F)
    (h : ∀ (C' : Cfg) (a' : Act) (V : Nat → (Good gx)), C' = C → a' = a0 → places V 0 Gs → sureAll P Pn C' V a' w.drew 0 (l.take n))
    (hend : ∀ (xs : Nat → Value) (w' : World), ExtS gx.all w.drew w' → goods Gs xs w' es → (∀ j, j < n → aliveB C j = true → ∃ v, good Gs j v w') → wpList P l.toArray Q (l.drop n) (putAll js xs a0) w') :
    (Code.region id l.toArray true).wp P Q a0 w := by
  have hS' : l.toArray.toList.map rowOf = C.S := by simpa using hS
  have B := sureB_spec hS' hB
  have hone := sureAll_at (l.take n) 0 (h C a0 (fun j => Gs.getD j Good.any) rfl rfl (places_of Gs Gs 0 (fun j _ => by rw [Nat.zero_add])))
  have hst : ∀ j v w w', good Gs j v w → Ext w w' → good Gs j v w' := fun j v w w' h hx => (Gs.getD j Good.any).st v w w' h hx
  have hone' : ∀ k o, k < n → l.toArray[k]? = some o → sureOne P Pn C (fun j => Gs.getD j Good.any) a0 w.drew k o (Gs.getD k Good.any) := fun k o hk ho => by
    have := hone k o (by rw [List.getElem?_take]; simp [hk]; simpa using ho)
    simpa using this
  have hfr : ∀ j c, survB (C.F.getD j none) c = true → ∀ v w w', good Gs j v w → ExtS (gx.at c) w w' → good Gs j v w' := fun j c hj v w w' hg hx => by
    refine (Gs.getD j Good.any).fr c ?_ v w w' hg hx
    rw [← hF] at hj
    rcases Nat.lt_or_ge j Gs.length with h' | h'
    · simp [h'] at hj ⊢; exact hj
    · rw [List.getD_eq_getElem?_getD, List.getElem?_eq_none h']; rfl
  refine wp_region_any hmix ?_
  have I0 : SureInv C l.toArray Gs a0 w.drew n (Array.replicate l.toArray.size false) a0 { w with drawn := w.drawn + 1 } := by
    have hf : ∀ j, (Array.replicate l.toArray.size false).getD j false = false := rep_false _
    refine ⟨by simp, fun j oj _ h => (by rw [hf] at h; cases h), fun t _ => hf t, ExtS.refl _ _, rfl, rfl, fun t _ => rfl, fun j h _ => (by rw [hf] at h; cases h)⟩
  have h := wpAny_sure (Q := Q) B hS' hm hst hfr hpan hone' (fun listed a w' I hall => by
    have hpairs : ∀ p ∈ endPairs C.S n, p.1 < n ∧ dstOf l.toArray p.1 = some p.2 := fun p hp => by
      obtain ⟨j, hj, e⟩ := List.mem_filterMap.1 hp
      obtain ⟨d, hd, rfl⟩ := Option.map_eq_some_iff.1 e
      rw [dst_eq hS'] at hd
      exact ⟨List.mem_range.1 hj, hd⟩
    let xs : Nat → Value := fun j => match dstOf l.toArray j with | some d => a.tmps.getD d undef | none => undef
    have hxv : ∀ j d, dstOf l.toArray j = some d → a.tmps[d]? = some (xs j) := fun j d hj => by
      have hd : d < a.tmps.size := by rw [I.tsize, hm]; exact B.inside j d hj
      simp only [xs, hj, Array.getD_eq_getD_getElem?, Array.getElem?_eq_getElem hd, Option.getD_some]
    have hxs : ∀ j d, dstOf l.toArray j = some d → listed.getD j false = true → aliveB C j = true → good Gs j (xs j) w' := fun j d hj hl ha => by
      obtain ⟨v, hv, hg⟩ := I.good j hl (fun c hc _ => List.all_eq_true.1 ha c hc)
      have h2 := hv d hj
      have h3 : xs j = v := Option.some.inj ((hxv j d hj).symm.trans h2)
      rw [h3]
      exact hg
    have hgoods : goods Gs xs w' es := goods_mem fun p hp => by
      rw [← hes, ← hjs] at hp
      obtain ⟨hp, hal⟩ := List.mem_filter.1 hp
      obtain ⟨h1, h2⟩ := hpairs p hp
      exact hxs p.1 p.2 h2 (hall _ h1) hal
    have ha : a = putAll js xs a0 := by
      have ht : a.tmps = (putAll js xs a0).tmps := by
        refine Array.ext_getElem? fun t => ?_
        rw [← hjs]
        by_cases hex : ∃ j, j < n ∧ dstOf l.toArray j = some t
        · obtain ⟨j, hj, hd⟩ := hex
          rw [putAll_in (endPairs C.S n) xs a0 j t (List.mem_filterMap.2 ⟨j, List.mem_range.2 hj, by rw [dst_eq hS', hd]; rfl⟩) (fun p hp hpd => by
            obtain ⟨_, h2⟩ := hpairs p hp
            rw [hpd] at h2
            rcases Nat.decEq p.1 j with h | h
            · exact absurd hd (B.apart p.1 j t h h2)
            · exact h) (by rw [hm]; exact B.inside j t hd)]
          exact hxv j t hd
        · rw [putAll_out _ xs a0 t (fun p hp hpd => by
            obtain ⟨h1, h2⟩ := hpairs p hp
            exact hex ⟨p.1, h1, by rw [← hpd]; exact h2⟩)]
          refine I.frame t fun j hl hj => hex ⟨j, ?_, hj⟩
          rcases Nat.lt_or_ge j n with h | h
          · exact h
          · rw [I.tail j h] at hl; cases hl
      have hd : a.defers = (putAll js xs a0).defers := by rw [putAll_defers]; exact I.defers
      cases a
      cases hq : putAll js xs a0
      rw [hq] at ht hd
      simp only at ht hd
      rw [ht, hd]
    have hlen : l.toArray.size - n = (l.drop n).length := by simp
    rw [hlen, ha]
    exact wpAny_seq B (l.drop n) n _ _ _ (Nat.le_refl _) (by have := B.le; simp at this ⊢; omega) (fun j => by simp) I.size hall (fun j hj => I.tail j hj) (hend xs w' (I.ext.mono fun b hb => by
      obtain ⟨p, hp, rfl⟩ := List.mem_map.1 hb
      exact List.mem_map.2 ⟨p, (List.mem_filter.1 hp).1, rfl⟩) hgoods fun j hj ha => by
      obtain ⟨v, -, hg⟩ := I.good j (hall j hj) (fun c hc _ => List.all_eq_true.1 ha c hc)
      exact ⟨v, hg⟩)) n (Array.replicate l.toArray.size false) a0 _ I0 (by
      have : (fun i => !(Array.replicate l.toArray.size false).getD i false) = fun _ : Nat => true := by
        funext i
        rw [rep_false]; rfl
      rw [this]
      simp)
  have hsz : n + (l.toArray.size - n) = l.toArray.size := by have := B.le; omega
  rw [hsz] at h
  exact h

theorem wp_region_sure_all {id : Nat} {a0 : Act} {w : World} {l : List Oper} (C : Cfg) (n m : Nat) (js es : List (Nat × Tmp)) (Gs : List (Good gx)) (hmix : P.follows .mixedOrders = true) (hpan : ∀ chain a w, a.defers = a0.defers → Pn chain w → Q (.panic chain) a w)
    (hS : l.map rowOf = C.S) (hB : sureB C.S C.M n m = true) (hm : a0.tmps.size = m) (hjs : endPairs C.S n = js) (hes : (js.filter fun p => aliveB C p.1) = es) (hF : Gs.map (fun g => g.surv) = C.F) (hn : l.length = n)
    (h : ∀ (C' : Cfg) (a' : Act) (V : Nat → (Good gx)), C' = C → a' = a0 → places V 0 Gs → sureAll P Pn C' V a' w.drew 0 l)
    (hend : ∀ (xs : Nat → Value) (w' : World), ExtS gx.all w.drew w' → goods Gs xs w' es → (∀ j, j < n → aliveB C j = true → ∃ v, good Gs j v w') → Q .normal (putAll js xs a0) w') :
    (Code.region id l.toArray true).wp P Q a0 w :=
  wp_region_sure C n m js es Gs hmix hpan hS hB hm hjs hes hF (fun C' a' V h1 h2 h3 => by rw [List.take_of_length_le (Nat.le_of_eq hn)]; exact h C' a' V h1 h2 h3)
    (fun xs w' hx hg hq => by rw [List.drop_of_length_le (Nat.le_of_eq hn)]; exact hend xs w' hx hg hq)

theorem run_plain {ρ : Operand → Value} {o : Oper} {w : World} {K : Value → World → Prop} (h : runs P Pn ρ o w K) : sureRun P Pn none ρ o w K := h
theorem run_guarded {ρ : Operand → Value} {o : Oper} {w : World} {K : Value → World → Prop} {d : Tmp} {b : Bool} (hb : ρ (.tmp d) = .bool b) (h : runs P Pn ρ o w K) : sureRun P Pn (some (d, b)) ρ o w K := by
  simp only [sureRun, guarded, hb, if_true]; exact h
theorem run_passed {ρ : Operand → Value} {o : Oper} {w : World} {K : Value → World → Prop} {d : Tmp} {b : Bool} (hb : ρ (.tmp d) = .bool (!b)) (h : K undef w) : sureRun P Pn (some (d, b)) ρ o w K := by
  cases b <;> simp [sureRun, guarded, hb] <;> exact h
theorem op_move {ρ : Operand → Value} {o : Oper} {w : World} {K : Value → World → Prop} {x : Operand} {v : Value} (ho : o.op = .move x) (hx : ρ x = v) (h : K v w) : runs P Pn ρ o w K := by
  subst hx
  unfold runs execOp
  simp only [ho, Sem.run_pure]
  exact h
theorem op_assign {ρ : Operand → Value} {o : Oper} {w : World} {K : Value → World → Prop} {x : Operand} {v : Value} (ho : o.op = .assign x) (hx : ρ x = v) (h : K v w) : runs P Pn ρ o w K := by
  subst hx
  unfold runs execOp
  simp only [ho, Sem.run_pure]
  exact h
theorem op_pick_t {ρ : Operand → Value} {o : Oper} {w : World} {K : Value → World → Prop} {c x y : Operand} {v : Value} (ho : o.op = .pick c x y) (hc : ρ c = .bool true) (hx : ρ x = v) (h : K v w) : runs P Pn ρ o w K := by
  subst hx
  unfold runs execOp
  simp only [ho, hc, asBool, Sem.run_bind, Sem.run_pure, Result.andThen_ok, if_true]
  exact h
theorem op_pick_f {ρ : Operand → Value} {o : Oper} {w : World} {K : Value → World → Prop} {c x y : Operand} {v : Value} (ho : o.op = .pick c x y) (hc : ρ c = .bool false) (hy : ρ y = v) (h : K v w) : runs P Pn ρ o w K := by
  subst hy
  unfold runs execOp
  simp only [ho, hc, asBool, Sem.run_bind, Sem.run_pure, Result.andThen_ok, if_false, Bool.false_eq_true]
  exact h
theorem op_call {ρ : Operand → Value} {o : Oper} {w : World} {K : Value → World → Prop} {f : FuncId} {args : Array Operand} {tys : Array TypeId} {vs : Array Value}
    (ho : o.op = .call { callee := .value (.func f), args := args, argTypes := tys }) (hρ : Env ρ) (hcall : ∀ (args : Array Value) (w : World), (callFunc f args).run P w = .ok (.enter f args) w) (hargs : args.map ρ = vs)
    (h : Calls P f vs w fun e w'' => (∃ v, e = .returned v ∧ K v w'') ∨ ∃ chain, e = .panicked chain ∧ Pn chain w'') : runs P Pn ρ o w K := by
  subst hargs
  unfold runs execOp
  simp only [ho, resolve, Deferred.ofValue, hρ.func, invoke, Sem.run_bind, Sem.run_pure, Result.andThen_ok, hcall, Array.append_empty, Array.empty_append]
  exact h
theorem op_callv {ρ : Operand → Value} {o : Oper} {w : World} {K : Value → World → Prop} {f : FuncId} {c : Operand} {args : Array Operand} {tys : Array TypeId} {vs caps : Array Value}
    (ho : o.op = .call { callee := .value c, args := args, argTypes := tys }) (hc : ρ c = .func (.func f) #[] caps) (hcall : ∀ (args : Array Value) (w : World), (callFunc f args).run P w = .ok (.enter f args) w) (hargs : args.map ρ = vs)
    (h : Calls P f (vs ++ caps) w fun e w'' => (∃ v, e = .returned v ∧ K v w'') ∨ ∃ chain, e = .panicked chain ∧ Pn chain w'') : runs P Pn ρ o w K := by
  subst hargs
  unfold runs execOp
  simp only [ho, resolve, Deferred.ofValue, hc, invoke, Sem.run_bind, Sem.run_pure, Result.andThen_ok, hcall, Array.empty_append]
  exact h
/-- it yields just this, and turns nothing -/
def detK (_gx : Rel) (w : World) (e : Value) : Value → World → Prop := fun v w' => Ext w w' ∧ v = e
theorem detK.mk {w : World} {e : Value} : detK gx w e e w := ⟨Ext.refl _, rfl⟩
theorem detK.ext {w w' : World} {e : Value} (h : Ext w w') : detK gx w e e w' := ⟨h, rfl⟩
def goodK (gx : Rel) (w : World) (G : (Good gx)) : Value → World → Prop := fun v w' => Ext w w' ∧ G.G v w'
def wildK (bs : List Nat) (w : World) (G : (Good gx)) : Value → World → Prop := fun v w' => ExtS bs w w' ∧ G.G v w'
theorem sure_op {a0 : Act} {w0 : World} {o : Oper} {rest : List Oper} {C : Cfg} {V : Nat → (Good gx)} {js : List (Nat × Tmp)} {ts : List Tmp} {gd : Option (Tmp × Bool)} {k : Nat} {G : (Good gx)} {bs : List Nat} (hV : V k = G)
    (hl : lookB C k false js ts gd = true) (hbs : gx.ahead C k = bs)
    (h : ∀ w, ExtS bs w0 w → ∀ ρ, Env ρ → seen V ρ w js → fixed ρ a0 ts → sureRun P Pn gd ρ o w (goodK gx w G))
    (hr : sureAll P Pn C V a0 w0 (k + 1) rest) : sureAll P Pn C V a0 w0 k (o :: rest) := ⟨⟨false, js, ts, gd, hl, by rw [hV]; exact fun w hw => h w (hbs ▸ hw)⟩, hr⟩
theorem sure_wild {a0 : Act} {w0 : World} {o : Oper} {rest : List Oper} {C : Cfg} {V : Nat → (Good gx)} {js : List (Nat × Tmp)} {ts : List Tmp} {gd : Option (Tmp × Bool)} {k : Nat} {G : (Good gx)} {bs cs : List Nat} (hV : V k = G)
    (hl : lookB C k true js ts gd = true) (hbs : gx.ahead C k = bs) (hcs : gx.at k = cs)
    (h : ∀ w, ExtS bs w0 w → ∀ ρ, Env ρ → seen V ρ w js → fixed ρ a0 ts → sureRun P Pn gd ρ o w (wildK cs w G))
    (hr : sureAll P Pn C V a0 w0 (k + 1) rest) : sureAll P Pn C V a0 w0 k (o :: rest) := by
  subst hcs
  exact ⟨⟨true, js, ts, gd, hl, by rw [hV]; exact fun w hw => h w (hbs ▸ hw)⟩, hr⟩
/-- one that yields just this, and turns nothing -/
theorem sure_det {a0 : Act} {w0 : World} {o : Oper} {rest : List Oper} {C : Cfg} {V : Nat → (Good gx)} {js : List (Nat × Tmp)} {ts : List Tmp} {gd : Option (Tmp × Bool)} {k : Nat} {e : Value} {bs : List Nat} (hV : V k = .det e)
    (hl : lookB C k false js ts gd = true) (hbs : gx.ahead C k = bs)
    (h : ∀ w, ExtS bs w0 w → ∀ ρ, Env ρ → seen V ρ w js → fixed ρ a0 ts → sureRun P Pn gd ρ o w (detK gx w e))
    (hr : sureAll P Pn C V a0 w0 (k + 1) rest) : sureAll P Pn C V a0 w0 k (o :: rest) :=
  sure_op hV hl hbs (fun w hw ρ hρ hs hfx => by
    have := h w hw ρ hρ hs hfx
    have mono : ∀ (A : Value → World → Prop) (B : Value → World → Prop), (∀ v w', A v w' → B v w') → sureRun P Pn gd ρ o w A → sureRun P Pn gd ρ o w B := fun A B hAB => by
      have hruns : runs P Pn ρ o w A → runs P Pn ρ o w B := by
        unfold runs
        split
        · exact hAB _ _
        · exact hAB _ _
        · exact fun hc => Calls.mono hc fun e w'' he => he.elim (fun ⟨v, he, ha⟩ => .inl ⟨v, he, hAB _ _ ha⟩) .inr
        · exact id
      unfold sureRun
      cases gd with
      | none => exact hruns
      | some p =>
        simp only [guarded]
        split
        · split
          · exact hruns
          · exact hAB _ _
        · exact hAB _ _
    exact mono _ _ (fun v w' ⟨h1, h2⟩ => ⟨h1, h2⟩) this) hr
end
end Go.Proofs.Ytennnhfaghdeoaa.SB
