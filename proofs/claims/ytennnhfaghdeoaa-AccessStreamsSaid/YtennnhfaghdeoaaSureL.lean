import Derived.Test.YtennnhfaghdeoaaSure
namespace Go.Proofs.Ytennnhfaghdeoaa
open Go.RowKit

/-! A region that draws its order, in which one operation that turns nothing may come behind the first store of the tail: it is taken first. -/
section
variable {P : Program} {ops : Array Oper} {Q : Exit → Act → World → Prop}
/-- an operation whose guard was passed by itself -/
theorem run_undef {ρ : Operand → Value} {o : Oper} {w : World} {K : Value → World → Prop} {d : Tmp} {b : Bool} (hb : ρ (.tmp d) = undef) (h : K undef w) : sureRun P (some (d, b)) ρ o w K := by
  simp only [sureRun, guarded, hb, undef]; exact h
def tailLB (M : List Nat) (n L : Nat) : Nat → List Row → Bool
  | _, [] => true
  | k, _ :: rs => (decide (k < n) || (M.getD k 0 ||| (if k = n then 2 ^ L else 0)) &&& (2 ^ k - 1) == 2 ^ k - 1) && tailLB M n L (k + 1) rs
def sureLB (S : List Row) (M : List Nat) (n m L : Nat) : Bool :=
  decide (n ≤ S.length) && decide (L < n) && sureB S M S.length m && tailLB M n L 0 S
def lateFree (ops : Array Oper) (M : List Nat) (L : Nat) : Bool :=
  match ops[L]? with
  | none => false
  | some oL => oL.guard.isNone && (List.range ops.size).all fun j => j == L || waits M L j || match ops[j]? with
    | some oj => oj.after.any (fun e => Region.binds .any e && e.on == L) || oL.apart ops oj
    | none => true
theorem tailL_spec {M : List Nat} {n L : Nat} : ∀ (S : List Row) (k0 : Nat), tailLB M n L k0 S = true → ∀ k, k < S.length → n ≤ k0 + k → ∀ i, i < k0 + k → waits M (k0 + k) i = true ∨ (k0 + k = n ∧ i = L)
  | [], _, _, k, h => by simp at h
  | x :: S, k0, hB, k, h => by
    simp only [tailLB, Bool.and_eq_true, Bool.or_eq_true, decide_eq_true_eq, beq_iff_eq] at hB
    cases k with
    | zero =>
      intro hn i hi
      rcases hB.1 with h1 | h1
      · omega
      · have h2 := congrArg (fun q => Nat.testBit q i) h1
        simp only [Nat.testBit_and, Nat.testBit_or, Nat.testBit_two_pow_sub_one] at h2
        rw [Nat.add_zero] at hi ⊢
        simp only [hi, decide_true, Bool.and_true, Bool.or_eq_true] at h2
        rcases h2 with h2 | h2
        · exact .inl h2
        · split at h2
          · rename_i hk
            rw [Nat.testBit_two_pow] at h2
            exact .inr ⟨hk, (of_decide_eq_true h2).symm⟩
          · simp at h2
    | succ k =>
      intro hn i hi
      have := tailL_spec S (k0 + 1) hB.2 k (by simpa using h) (by omega) i (by omega)
      rw [show k0 + (k + 1) = k0 + 1 + k by omega]
      exact this
theorem wpAny_seqL {M : List Nat} {n m : Nat} (B : SureB ops M ops.size m) (htail : ∀ k i, n ≤ i → i < k → k < ops.size → waits M k i = true) : ∀ (l : List Oper) (k : Nat) (listed : Array Bool) (a : Act) (w : World), n ≤ k → k + l.length = ops.size → (∀ j, l[j]? = ops[k + j]?) →
    listed.size = ops.size → (∀ j, j < k → listed.getD j false = true) → (∀ j, k ≤ j → listed.getD j false = false) → wpList P ops Q l a w → wpAny P .any ops Q l.length listed a w
  | [], k, listed, a, w, _, hlen, _, hs, h1, _, h => by
    refine ⟨?_, h⟩
    cases hr : Region.ready .any ops listed with
    | nil => rfl
    | cons x xs =>
      have hx : x ∈ Region.ready .any ops listed := by rw [hr]; simp
      obtain ⟨hu, o, ho, _⟩ := mem_ready.1 hx
      have hlt : x < ops.size := (Array.getElem?_eq_some_iff.1 ho).1
      have := h1 x (by simp at hlen; omega)
      rw [getD_alike hu] at this
      cases this
  | o :: l, k, listed, a, w, hn, hlen, hl, hs, h1, h2, h => by
    have h0 : ops[k]? = some o := by simpa using (hl 0).symm
    have hk : k < ops.size := (Array.getElem?_eq_some_iff.1 h0).1
    have hkr : k ∈ Region.ready .any ops listed := mem_ready.2 ⟨by
      have := h2 k (Nat.le_refl _)
      have hkl : k < listed.size := by omega
      simp [hkl] at this ⊢; exact this, o, h0, fun e he hb => h1 e.on (B.edge k o h0 e he hb)⟩
    refine ⟨fun h1 => (by rw [h1] at hkr; cases hkr), fun i hi => ?_⟩
    have hik : i = k := by
      obtain ⟨hu, oi, hoi, hall⟩ := mem_ready.1 hi
      have hi' : i < ops.size := (Array.getElem?_eq_some_iff.1 hoi).1
      rcases Nat.lt_trichotomy i k with h | h | h
      · have := h1 i h; rw [getD_alike hu] at this; cases this
      · exact h
      · have hw := htail i k hn h hi'
        have := waits_listed B (listed := listed) (fun j oj hj hlj e he hb => by
          have hjk : j < k := by
            rcases Nat.lt_or_ge j k with h' | h'
            · exact h'
            · rw [h2 j h'] at hlj; cases hlj
          exact h1 e.on (Nat.lt_trans (B.edge j oj hj e he hb) hjk)) i oi hoi hall k hw
        rw [h2 k (Nat.le_refl _)] at this
        cases this
    subst hik
    have hw : wpOp P ops Q i (wpList P ops Q l) a w := by unfold wpOp; simp only [h0]; exact h
    have hil : i < listed.size := by omega
    refine wpOp_mono (fun a' w' h' => wpAny_seqL B htail l (i + 1) _ a' w' (by omega) (by simp at hlen; omega) (fun j => by have := hl (j + 1); simpa [Nat.add_assoc, Nat.add_comm 1 j] using this) (by simp [hs]) (fun j hj => ?_) (fun j hj => ?_) h') hw
    · by_cases hji : i = j
      · subst hji; simp [hil]
      · exact getD_set_true (h1 j (by omega))
    · rw [getD_set_ne false (by omega)]; exact h2 j (by omega)
/-- the operation that is taken first -/
theorem sure_put {C : Cfg} {Gs : List Good} {a0 : Act} {w0 : World} {n m : Nat} (S : SureB ops C.M n m) (hm : a0.tmps.size = m) (hW : C.W = [])
    {listed : Array Bool} {a : Act} {w : World} (I : SureInv C ops Gs a0 w0 n listed a w) {k : Nat} {o : Oper} (ho : ops[k]? = some o) (hr : k ∈ Region.ready .any ops listed) (hkn : k < n) {v : Value} (hg : good Gs k v w) :
    SureInv C ops Gs a0 w0 n (listed.setIfInBounds k true) (a.put o.dst v) w := by
  obtain ⟨hun, o', ho', hall⟩ := mem_ready.1 hr
  have : o' = o := Option.some.inj (ho'.symm.trans ho)
  subst this
  have hks : k < ops.size := (Array.getElem?_eq_some_iff.1 ho).1
  have hkl : k < listed.size := by rw [I.size]; exact hks
  refine ⟨by simp [I.size], ?_, ?_, I.ext, by rw [put_defers]; exact I.defers, by rw [put_size]; exact I.tsize, ?_, ?_⟩
  · intro j oj hj hl e he hb
    by_cases hkj : k = j
    · subst hkj
      have : oj = o' := Option.some.inj (hj.symm.trans ho)
      subst this
      exact getD_set_true (hall e he hb)
    · rw [getD_set_ne false hkj] at hl
      exact getD_set_true (I.closed j oj hj hl e he hb)
  · intro t ht
    rw [getD_set_ne false (by omega)]
    exact I.tail t ht
  · intro t ht
    have hk' : dstOf ops k ≠ some t := ht k (by simp [hkl])
    rw [dstOf_some ho] at hk'
    have h2 : (a.put o'.dst v).tmps[t]? = a.tmps[t]? := by
      cases hd : o'.dst with
      | none => rfl
      | some d => rw [hd] at hk'; exact put_get_ne _ (fun e => hk' (by rw [e]))
    rw [h2]
    exact I.frame t (fun j hl => ht j (getD_set_true hl))
  · intro j hl _
    by_cases hkj : k = j
    · subst hkj
      refine ⟨v, fun d hd => ?_, hg⟩
      rw [dstOf_some ho] at hd
      rw [hd]
      exact put_get_same _ (by rw [I.tsize, hm]; exact S.inside k d (by rw [dstOf_some ho]; exact hd))
    · rw [getD_set_ne false hkj] at hl
      obtain ⟨u, hu, hgu⟩ := I.good j hl (fun c hc => by rw [hW] at hc; cases hc)
      refine ⟨u, fun d hd => ?_, hgu⟩
      cases hd' : o'.dst with
      | none => exact hu d hd
      | some d' =>
        rw [put_get_ne _ (fun e => S.apart k j d' hkj (by rw [dstOf_some ho]; exact hd') (by rw [e]; exact hd))]
        exact hu d hd
theorem wpAny_late {C : Cfg} {Gs : List Good} {a0 : Act} {w0 : World} {n m L : Nat} {oL : Oper} (S : SureB ops C.M ops.size m) (hnN : n ≤ ops.size) (hLn : L < n) (hW : C.W = []) (hoL : ops[L]? = some oL) (hfree : lateFree ops C.M L = true) (hsel : Region.noSelect ops = true)
    (htail : ∀ k i, n ≤ k → k < ops.size → i < k → waits C.M k i = true ∨ (k = n ∧ i = L))
    (hS : ops.toList.map rowOf = C.S) (hm : a0.tmps.size = m) (hst : ∀ j v w w', good Gs j v w → Ext w w' → good Gs j v w')
    (hfr : ∀ j, C.F.getD j true = true → ∀ v w w', good Gs j v w → WildR C.E w w' → good Gs j v w')
    (hone : ∀ k o, k < n → ops[k]? = some o → sureOne P C (fun j => Gs.getD j Good.any) a0 w0 k o (Gs.getD k Good.any))
    (hQ : ∀ v c a w, Q (.panic c) (a.put oL.dst v) w → Q (.panic c) a w)
    (hlate : ∀ listed a w, SureInv C ops Gs a0 w0 ops.size listed a w → (∀ j, waits C.M L j = true → listed.getD j false = true) → ∃ v, (∀ w', (execOp a.eval oL).run P w' = .ok (.value v) w') ∧ good Gs L v w)
    (hend : ∀ listed a w, SureInv C ops Gs a0 w0 ops.size listed a w → (∀ t, n ≤ t → listed.getD t false = false) → (∀ i, i < n → listed.getD i false = true) → wpAny P .any ops Q (ops.size - n) listed a w) :
    ∀ (c : Nat) (listed : Array Bool) (a : Act) (w : World), SureInv C ops Gs a0 w0 ops.size listed a w → (∀ t, n ≤ t → listed.getD t false = false) → (List.range n).countP (fun i => !listed.getD i false) = c → wpAny P .any ops Q (c + (ops.size - n)) listed a w
  | 0, listed, a, w, I, hT, hc => by
    rw [Nat.zero_add]
    refine hend listed a w I hT fun i hi => ?_
    have := List.countP_eq_zero.1 hc i (List.mem_range.2 hi)
    simpa using this
  | c + 1, listed, a, w, I, hT, hc => by
    rw [show c + 1 + (ops.size - n) = (c + (ops.size - n)) + 1 by omega]
    have cnt : ∀ k, k < n → listed.getD k false = false → (List.range n).countP (fun i => !(listed.setIfInBounds k true).getD i false) = c := fun k hkn hkun => by
      have hkl : k < listed.size := by rw [I.size]; omega
      have h2 := countP_less (p := fun i => !listed.getD i false) (q := fun i => !(listed.setIfInBounds k true).getD i false) (k := k)
        (by simp only [hkun, Bool.not_false]) (by simp [hkl]) (fun j hj => by simp only [getD_set_ne false (Ne.symm hj)]) n hkn
      omega
    have hT' : ∀ k, k < n → ∀ t, n ≤ t → (listed.setIfInBounds k true).getD t false = false := fun k hk t ht => by rw [getD_set_ne false (by omega)]; exact hT t ht
    by_cases hLr : L ∈ Region.ready .any ops listed
    · obtain ⟨hun, o', ho', hall⟩ := mem_ready.1 hLr
      have e : o' = oL := Option.some.inj (ho'.symm.trans hoL)
      subst e
      have dep : ∀ j, waits C.M L j = true → listed.getD j false = true := fun j hw => waits_listed S I.closed L o' ho' hall j hw
      obtain ⟨v, hy, hg⟩ := hlate listed a w I dep
      simp only [lateFree, hoL, Bool.and_eq_true, List.all_eq_true, List.mem_range, Bool.or_eq_true, beq_iff_eq] at hfree
      have hgd : o'.guard = none := by have := hfree.1; simpa using this
      refine wpAny_first hoL (Region.noSelect_spec hsel) (hQ v) _ listed a w (fun j oj hj hne hunj hno => ?_) hLr (.inl ⟨by simp [Region.wanted, hgd], hy⟩)
        (wpAny_late S hnN hLn hW hoL (by simp only [lateFree, hoL, Bool.and_eq_true, List.all_eq_true, List.mem_range, Bool.or_eq_true, beq_iff_eq]; exact hfree) hsel htail hS hm hst hfr hone hQ hlate hend c _ _ w (sure_put S hm hW I hoL hLr (by omega) hg) (hT' L hLn) (cnt L hLn (getD_alike hun)))
      have hjs : j < ops.size := (Array.getElem?_eq_some_iff.1 hj).1
      rcases hfree.2 j hjs with (h1 | h1) | h1
      · exact absurd h1 hne
      · have := getD_alike hunj
        have h2 := dep j h1
        rw [this] at h2; cases h2
      · rw [hj] at h1
        simp only [Bool.or_eq_true] at h1
        rcases h1 with h1 | h1
        · obtain ⟨e, he, hb⟩ := Array.any_eq_true'.1 h1
          simp only [Bool.and_eq_true, beq_iff_eq] at hb
          exact absurd hb.2 (hno e he hb.1)
        · exact h1
    · -- the least one that is still to come
      have hex : ∃ i, i < n ∧ listed.getD i false = false ∧ ∀ j, j < i → listed.getD j false = true := by
        have hpos : 0 < (List.range n).countP (fun i => !listed.getD i false) := by omega
        obtain ⟨i, hi, hn⟩ := List.countP_pos_iff.1 hpos
        have key : ∀ i, i < n → listed.getD i false = false → ∃ i, i < n ∧ listed.getD i false = false ∧ ∀ j, j < i → listed.getD j false = true := by
          intro i
          induction i using Nat.strongRecOn with
          | _ i ih =>
            intro h1 h2
            by_cases hall : ∀ j, j < i → listed.getD j false = true
            · exact ⟨i, h1, h2, hall⟩
            · have hne : ∃ j, j < i ∧ listed.getD j false = false := by
                rcases Classical.em (∃ j, j < i ∧ listed.getD j false = false) with h | h
                · exact h
                · exact absurd (fun j hj => by
                    cases hq : listed.getD j false with
                    | true => rfl
                    | false => exact absurd ⟨j, hj, hq⟩ h) hall
              obtain ⟨j, hj, hjf⟩ := hne
              exact ih j hj (by omega) hjf
        exact key i (List.mem_range.1 hi) (by simpa using hn)
      obtain ⟨i, hin, hif, hall⟩ := hex
      have his : i < ops.size := Nat.lt_of_lt_of_le hin hnN
      have hir : i ∈ Region.ready .any ops listed := by
        refine mem_ready.2 ⟨?_, ops[i], Array.getElem?_eq_getElem his, fun e he hb => hall e.on (S.edge i ops[i] (Array.getElem?_eq_getElem his) e he hb)⟩
        have hil : i < listed.size := by rw [I.size]; exact his
        simp [hil] at hif ⊢; exact hif
      refine ⟨fun h => (by rw [h] at hir; cases hir), fun k hk => ?_⟩
      obtain ⟨hkun, o, ho, hkall⟩ := mem_ready.1 hk
      have hks : k < ops.size := (Array.getElem?_eq_some_iff.1 ho).1
      have hkn : k < n := by
        rcases Nat.lt_or_ge k n with h | h
        · exact h
        · rcases htail k i h hks (by omega) with h2 | ⟨h2, rfl⟩
          · have h3 := waits_listed S I.closed k o ho hkall i h2
            rw [hif] at h3; cases h3
          · exact absurd hir hLr
      exact wpOp_mono (fun a' w' I' => wpAny_late S hnN hLn hW hoL hfree hsel htail hS hm hst hfr hone hQ hlate hend c _ a' w' I' (hT' k hkn) (cnt k hkn (getD_alike hkun))) (sure_step S hS hm hst hfr I ho hk (by omega) (hone k o hkn ho))
/-- A REGION THAT DRAWS ITS ORDER, with one operation L that turns nothing and may come behind the tail's first one -/
theorem wp_region_late {id : Nat} {a0 : Act} {w : World} {l : List Oper} (L : Nat) (jsL : List (Nat × Tmp)) (C : Cfg) (n m : Nat) (js es : List (Nat × Tmp)) (Gs : List Good) (hmix : P.follows .mixedOrders = true)
    (hS : l.map rowOf = C.S) (hB : sureLB C.S C.M n m L = true) (hm : a0.tmps.size = m) (hjs : endPairs C.S n = js) (hes : (js.filter fun p => aliveB C p.1) = es) (hF : Gs.map (fun g => g.free C.E) = C.F)
    (hfree : lateFree l.toArray C.M L = true) (hlook : (jsL.all fun p => waits C.M L p.1 && dstS C.S p.1 == some p.2) = true) (hsel : Region.noSelect l.toArray = true) (hW : C.W = [])
    (hQ : ∀ (d : Tmp) (v : Value) c a w, Q (.panic c) (a.put (some d) v) w → Q (.panic c) a w)
    (hlate : ∀ (V : Nat → Good), places V 0 Gs → ∀ w', Ext w.drew w' → ∀ ρ, Env ρ → seen V ρ w' jsL → ∀ o, l[L]? = some o → ∃ v, (∀ w'', (execOp ρ o).run P w'' = .ok (.value v) w'') ∧ (V L).G v w')
    (h : ∀ (C' : Cfg) (a' : Act) (V : Nat → Good), C' = C → a' = a0 → places V 0 Gs → sureAll P C' V a' w.drew 0 (l.take n))
    (hend : ∀ (xs : Nat → Value) (w' : World), Ext w.drew w' → goods Gs xs w' es → wpList P l.toArray Q (l.drop n) (putAll js xs a0) w') :
    (Code.region id l.toArray true).wp P Q a0 w := by
  have hS' : l.toArray.toList.map rowOf = C.S := by simpa using hS
  simp only [sureLB, Bool.and_eq_true, decide_eq_true_eq] at hB
  obtain ⟨⟨⟨hn1, hLn⟩, hB1⟩, hB2⟩ := hB
  have hlS : C.S.length = l.toArray.size := by rw [← hS']; simp
  have B := sureB_spec hS' hB1
  rw [hlS] at B
  have hnN : n ≤ l.toArray.size := by omega
  have htail : ∀ k i, n ≤ k → k < l.toArray.size → i < k → waits C.M k i = true ∨ (k = n ∧ i = L) := fun k i h1 h2 h3 => by
    have := tailL_spec C.S 0 hB2 k (by omega) (by omega) i (by omega)
    simpa using this
  obtain ⟨oL, hoL⟩ : ∃ o, l.toArray[L]? = some o := ⟨l.toArray[L]'(by omega), Array.getElem?_eq_getElem _⟩
  have hP0 := places_of Gs Gs 0 (fun j _ => by rw [Nat.zero_add])
  have hone := sureAll_at (l.take n) 0 (h C a0 (fun j => Gs.getD j Good.any) rfl rfl hP0)
  have hst : ∀ j v w w', good Gs j v w → Ext w w' → good Gs j v w' := fun j v w w' h hx => (Gs.getD j Good.any).st v w w' h hx
  have hone' : ∀ k o, k < n → l.toArray[k]? = some o → sureOne P C (fun j => Gs.getD j Good.any) a0 w.drew k o (Gs.getD k Good.any) := fun k o hk ho => by
    have := hone k o (by rw [List.getElem?_take]; simp [hk]; simpa using ho)
    simpa using this
  have hfr : ∀ j, C.F.getD j true = true → ∀ v w w', good Gs j v w → WildR C.E w w' → good Gs j v w' := fun j hj v w w' hg hx => by
    refine (Gs.getD j Good.any).fr C.E ?_ v w w' hg hx
    rw [← hF] at hj
    rcases Nat.lt_or_ge j Gs.length with h' | h'
    · simp [h'] at hj ⊢; exact hj
    · rw [List.getD_eq_getElem?_getD, List.getElem?_eq_none h']; rfl
  refine wp_region_any hmix ?_
  have I0 : SureInv C l.toArray Gs a0 w.drew l.toArray.size (Array.replicate l.toArray.size false) a0 { w with drawn := w.drawn + 1 } := by
    have hf : ∀ j, (Array.replicate l.toArray.size false).getD j false = false := rep_false _
    refine ⟨by simp, fun j oj _ h => (by rw [hf] at h; cases h), fun t _ => hf t, Ext.refl _, rfl, rfl, fun t _ => rfl, fun j h _ => (by rw [hf] at h; cases h)⟩
  have hno : ∀ (listed : Array Bool) (j : Nat), ∀ c, c ∈ C.W → listed.getD c false = true → alive C j c = true := fun _ _ c hc => by rw [hW] at hc; cases hc
  have h := wpAny_late (Q := Q) B hnN hLn hW hoL hfree hsel htail hS' hm hst hfr hone' (fun v c a w => by cases hd : oL.dst with | none => exact fun h => h | some d => exact hQ d v c a w) (fun listed a w' I hdep => by
      refine hlate (fun j => Gs.getD j Good.any) hP0 w' I.ext a.eval (act_env a) (seen_of fun p hp => ?_) oL (by simpa using hoL)
      have h2 := List.all_eq_true.1 hlook p hp
      simp only [Bool.and_eq_true, beq_iff_eq] at h2
      obtain ⟨v, hv, hg⟩ := I.good p.1 (hdep p.1 h2.1) (hno _ _)
      rw [act_eval (hv _ (by rw [← dst_eq hS']; exact h2.2))]
      exact hg) (fun listed a w' I hT hall => by
    have hpairs : ∀ p ∈ endPairs C.S n, p.1 < n ∧ dstOf l.toArray p.1 = some p.2 := fun p hp => by
      obtain ⟨j, hj, e⟩ := List.mem_filterMap.1 hp
      obtain ⟨d, hd, rfl⟩ := Option.map_eq_some_iff.1 e
      rw [dst_eq hS'] at hd
      exact ⟨List.mem_range.1 hj, hd⟩
    let xs : Nat → Value := fun j => match dstOf l.toArray j with | some d => a.tmps.getD d undef | none => undef
    have hxv : ∀ j d, dstOf l.toArray j = some d → a.tmps[d]? = some (xs j) := fun j d hj => by
      have hd : d < a.tmps.size := by rw [I.tsize, hm]; exact B.inside j d hj
      simp only [xs, hj, Array.getD_eq_getD_getElem?, Array.getElem?_eq_getElem hd, Option.getD_some]
    have hxs : ∀ j d, dstOf l.toArray j = some d → listed.getD j false = true → aliveB C j = true → good Gs j (xs j) w' := fun j d hj hl ha => by
      obtain ⟨v, hv, hg⟩ := I.good j hl (fun c hc _ => List.all_eq_true.1 ha c hc)
      have h2 := hv d hj
      have h3 : xs j = v := Option.some.inj ((hxv j d hj).symm.trans h2)
      rw [h3]
      exact hg
    have hgoods : goods Gs xs w' es := goods_mem fun p hp => by
      rw [← hes, ← hjs] at hp
      obtain ⟨hp, hal⟩ := List.mem_filter.1 hp
      obtain ⟨h1, h2⟩ := hpairs p hp
      exact hxs p.1 p.2 h2 (hall _ h1) hal
    have ha : a = putAll js xs a0 := by
      have ht : a.tmps = (putAll js xs a0).tmps := by
        refine Array.ext_getElem? fun t => ?_
        rw [← hjs]
        by_cases hex : ∃ j, j < n ∧ dstOf l.toArray j = some t
        · obtain ⟨j, hj, hd⟩ := hex
          rw [putAll_in (endPairs C.S n) xs a0 j t (List.mem_filterMap.2 ⟨j, List.mem_range.2 hj, by rw [dst_eq hS', hd]; rfl⟩) (fun p hp hpd => by
            obtain ⟨_, h2⟩ := hpairs p hp
            rw [hpd] at h2
            rcases Nat.decEq p.1 j with h | h
            · exact absurd hd (B.apart p.1 j t h h2)
            · exact h) (by rw [hm]; exact B.inside j t hd)]
          exact hxv j t hd
        · rw [putAll_out _ xs a0 t (fun p hp hpd => by
            obtain ⟨h1, h2⟩ := hpairs p hp
            exact hex ⟨p.1, h1, by rw [← hpd]; exact h2⟩)]
          refine I.frame t fun j hl hj => hex ⟨j, ?_, hj⟩
          rcases Nat.lt_or_ge j n with h | h
          · exact h
          · rw [hT j h] at hl; cases hl
      have hd : a.defers = (putAll js xs a0).defers := by rw [putAll_defers]; exact I.defers
      cases a
      cases hq : putAll js xs a0
      rw [hq] at ht hd
      simp only at ht hd
      rw [ht, hd]
    have hlen : l.toArray.size - n = (l.drop n).length := by simp
    rw [hlen, ha]
    exact wpAny_seqL B (n := n) (fun k i h1 h2 h3 => by
      rcases htail k i (by omega) h3 h2 with h4 | ⟨h4, h5⟩
      · exact h4
      · omega) (l.drop n) n _ _ _ (Nat.le_refl _) (by simp at hnN ⊢; omega) (fun j => by simp) I.size hall hT (hend xs w' I.ext hgoods)) n (Array.replicate l.toArray.size false) a0 _ I0 (fun t _ => rep_false _ t) (by
      have : (fun i => !(Array.replicate l.toArray.size false).getD i false) = fun _ : Nat => true := by
        funext i
        rw [rep_false]; rfl
      rw [this]
      simp)
  have hsz : n + (l.toArray.size - n) = l.toArray.size := by omega
  rw [hsz] at h
  exact h
end
end Go.Proofs.Ytennnhfaghdeoaa
