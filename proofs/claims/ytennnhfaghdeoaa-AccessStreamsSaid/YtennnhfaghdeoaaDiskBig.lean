import Derived.Test.YtennnhfaghdeoaaDiskOpen
import Derived.SizedLaws
namespace Go.Proofs.Ytennnhfaghdeoaa
open Go.ChangeShapes Go.WideShapes Go.ChangeAt Go.RowKit

/-! What came in is no longer than the form allows. -/
section
variable {H : Type} {enc : TypeId × Value → H} {P : Program}
theorem weights_all_mem {e : TypeId} : ∀ {ds : List (DataW H)} {d : DataW H}, d ∈ ds → ∀ n ∈ d.weights P e, n ∈ DataW.weightsAll P e ds
  | x :: ds, d, hd, n, hn => by
    simp only [DataW.weightsAll, List.mem_append]
    rcases List.mem_cons.1 hd with rfl | hd
    · exact .inl hn
    · exact .inr (weights_all_mem hd n hn)
/-- no slice or string within is longer -/
def Light (P : Program) (t : TypeId) (d : DataW H) : Prop := ∀ n ∈ d.weights P t, n ≤ reachBytes
section
variable {w : World} {base : Nat} {spare : Nat → Bool} {held : Bool}
theorem open_slice_w {t e : TypeId} {fuel : Nat} {cs : List Value} {x : DataW H × List MemPlace} (ht : P.underlying t = some (.slice e)) (h : DataW.trod enc P w base spare held fuel t cs = some x) (hL : Light P t x.1) :
    ∃ (A : Option Addr) (n c m : Nat), cs = [.slice A n c] ∧ n ≤ c ∧ c ≤ maxLen ∧ (A = none → c = 0) ∧
      ∀ i, i < n → ∃ a l y, A = some a ∧ l.length = P.cellsOf e ∧ (∀ j u, l[j]? = some u → w.cell? (a.add (i * P.cellsOf e + j)) = some u) ∧ DataW.trod enc P w base spare held m e l = some y ∧ Light P e y.1 := by
  rcases DataW.trod_slice ht h with ⟨rfl, _⟩ | ⟨a, len, cap, elems, rest, n, _, rfl, rfl, hb, hl, hm, hlen, hel, _, _⟩
  · exact ⟨none, 0, 0, 0, rfl, Nat.le_refl _, Nat.zero_le _, fun _ => rfl, fun i hi => by omega⟩
  · refine ⟨some a, len, cap, n, rfl, hl, hm, (by intro h; cases h), fun i hi => ?_⟩
    have h1 := hel i hi
    rw [List.getElem?_eq_getElem (by omega)] at h1
    obtain ⟨cs', hcs, hy⟩ := Option.bind_eq_some_iff.1 h1
    have h2 := World.cells?_some hcs
    refine ⟨a, cs', elems[i]'(by omega), rfl, h2.2.1, fun j u hu => ?_, hy, fun k hk => hL k ?_⟩
    · have hj : j < cs'.length := (List.getElem?_eq_some_iff.1 hu).1
      have := h2.2.2 j (by rw [← h2.2.1]; exact hj)
      rw [addr_add_add] at this
      rw [this]
      exact hu
    · simp only [DataW.weights, ht, List.mem_cons, List.mem_append]
      exact .inr (.inl (weights_all_mem (List.mem_map_of_mem (List.getElem_mem (by omega))) k hk))
theorem open_inner_w {t : TypeId} {fs : Array Field} {fuel : Nat} {cs : List Value} {x : DataW H × List MemPlace} (hs : P.underlying t = some (.struct fs)) (h : DataW.trod enc P w base spare held fuel t cs = some x) (hL : Light P t x.1) :
    ∃ n, ∀ (j : Nat) (f : Field), fs[j]? = some f → ∃ y, DataW.trod enc P w base spare held n f.type ((cs.drop f.offset).take (P.cellsOf f.type)) = some y ∧ Light P f.type y.1 := by
  obtain ⟨xs, n, _, hx, _, hlen, hg⟩ := DataW.trod_struct hs h
  refine ⟨n, fun j f hj => ?_⟩
  have hjl : j < xs.length := by rw [hlen]; exact (Array.getElem?_eq_some_iff.1 hj).1
  have h1 := hg j f hj
  rw [List.getElem?_eq_getElem hjl] at h1
  refine ⟨xs[j], h1, fun k hk => hL k ?_⟩
  rw [hx]
  simp only [DataW.weights, hs]
  exact DataW.weights_mem_each (j := j) (t := f.type) (d := xs[j].1) (by rw [List.getElem?_map, Array.getElem?_toList, hj]; rfl) (by simp [hjl]) k hk
end
end
theorem bytesU8 : Try.prog.bytesOf 5 = 1 := by kernel_rfl
section
variable {H : Type} {enc : TypeId × Value → H} {w : World} {base : Nat}
set_option maxRecDepth 100000 in
theorem open_bytes_w {fuel : Nat} {cs : List Value} {x : DataW H × List MemPlace} (h : DataW.trod enc Try.prog w base (fun _ => true) true fuel 40 cs = some x) (hL : Light Try.prog 40 x.1) :
    ∃ A n c d, cs = [.slice A n c] ∧ BytesV w A n c d ∧ n ≤ 140737488351232 := by
  obtain ⟨A, n, c, d, e, hV⟩ := open_bytes h
  refine ⟨A, n, c, d, e, hV, ?_⟩
  rcases DataW.trod_slice Try.underlying40 h with ⟨rfl, _⟩ | ⟨a, len, cap, elems, rest, m, _, rfl, rfl, hb, hl, hm, hlen, hel, _, _⟩
  · simp at e
    obtain ⟨rfl, rfl, rfl⟩ := e
    exact Nat.zero_le _
  · simp at e
    obtain ⟨rfl, rfl, rfl⟩ := e
    have := hL ((elems.length + rest.length) * Try.prog.bytesOf 5) (by
      simp only [DataW.weights, Try.underlying40]
      simp)
    rw [bytesU8, hlen] at this
    simp only [reachBytes] at this
    omega
set_option maxRecDepth 100000 in
theorem open_row_w {fuel : Nat} {cs : List Value} {x : DataW H × List MemPlace} (h : DataW.trod enc Try.prog w base (fun _ => true) true fuel 27 cs = some x) (hL : Light Try.prog 27 x.1) :
    ∃ A n c l, cs = [.slice A n c] ∧ RowV w A n c l ∧ ∀ s ∈ l, s.q ≤ 140737488351232 := by
  obtain ⟨A, n, c, m, e, hn, hc, hA, hi⟩ := open_slice_w Try.underlying27 h hL
  rw [cellsStream] at hi
  obtain ⟨l, hl, hp⟩ := list_choose (n := n) (p := fun i (s : St) => (∃ a, A = some a ∧ w.cell? (a.add (i * 2)) = some (.slice s.D s.q s.cd) ∧ w.cell? (a.add (i * 2 + 1)) = some (.int .i64 s.k)) ∧ StOK w s ∧ s.q ≤ 140737488351232) (fun i hlt => by
    obtain ⟨a, l, y, ha, hlen, hcell, ht, hy⟩ := hi i hlt
    obtain ⟨x0, x1, rfl⟩ := list_two hlen
    obtain ⟨k, hg⟩ := open_inner_w Try.underlying90 ht hy
    obtain ⟨_, s0, hy0⟩ := hg 0 _ rfl
    obtain ⟨_, s1, -⟩ := hg 1 _ rfl
    obtain ⟨D, q, cd, d, e0, hD, hq⟩ := open_bytes_w s0 hy0
    obtain ⟨z, e1, _, w1⟩ := DataW.trod_int Try.underlying3 s1
    simp [cellsBytes, cellsIntS] at e0 e1
    subst e0 e1
    exact ⟨⟨D, q, cd, z, d⟩, ⟨a, ha, by simpa using hcell 0 _ rfl, by simpa using hcell 1 _ rfl⟩, hD, hq⟩)
  refine ⟨A, n, c, l, e, ⟨hl, hn, hc, hA, ?_, fun s hs => ?_⟩, fun s hs => ?_⟩
  · intro hne
    have hpos : 0 < l.length := by
      rcases Nat.eq_zero_or_pos l.length with h0 | h0
      · rw [List.eq_nil_of_length_eq_zero h0] at hne; exact absurd rfl hne
      · exact h0
    obtain ⟨⟨a, ha, -⟩, -⟩ := hp 0 l[0] (List.getElem?_eq_getElem _)
    refine ⟨a, ha, fun i u hu => ?_⟩
    have hil : i < l.length * 2 := by rw [← rowCells_length]; exact (List.getElem?_eq_some_iff.1 hu).1
    have hj : i / 2 < l.length := by omega
    obtain ⟨⟨b, hb, b0, b1⟩, -⟩ := hp (i / 2) l[i / 2] (List.getElem?_eq_getElem _)
    obtain rfl : a = b := Option.some.inj (ha.symm.trans hb)
    obtain ⟨r0, r1⟩ := rowCells_at (List.getElem?_eq_getElem hj)
    rcases Nat.mod_two_eq_zero_or_one i with hm | hm
    · have ei : i / 2 * 2 = i := by omega
      rw [ei] at r0 b0
      rw [r0] at hu
      cases hu
      exact b0
    · have ei : i / 2 * 2 + 1 = i := by omega
      rw [ei] at r1 b1
      rw [r1] at hu
      cases hu
      exact b1
  · obtain ⟨i, hi'⟩ := List.getElem?_of_mem hs
    exact (hp i s hi').2.1
  · obtain ⟨i, hi'⟩ := List.getElem?_of_mem hs
    exact (hp i s hi').2.2
set_option maxRecDepth 100000 in
theorem open_disk_w {fuel : Nat} {cs : List Value} {x : DataW H × List MemPlace} (hl : cs.length = 3) (h : DataW.trod enc Try.prog w base (fun _ => true) true fuel 30 cs = some x) (hL : Light Try.prog 30 x.1) :
    ∃ (R : Int) (A0 A1 : Option Addr) (n0 c0 n1 c1 : Nat) (l0 l1 : List St), cs = [.int .u64 R, .slice A0 n0 c0, .slice A1 n1 c1] ∧ RowV w A0 n0 c0 l0 ∧ RowV w A1 n1 c1 l1 ∧ (0 ≤ R ∧ R < 18446744073709551616) ∧ (∀ s ∈ l0, s.q ≤ 140737488351232) ∧ (∀ s ∈ l1, s.q ≤ 140737488351232) := by
  match cs, hl with
  | [x0, x1, x2], _ =>
  obtain ⟨k, hg⟩ := open_inner_w Try.underlying30 h hL
  obtain ⟨_, s0, -⟩ := hg 0 _ rfl
  obtain ⟨y, s1, hy⟩ := hg 1 _ rfl
  obtain ⟨R, e0, _, w0⟩ := DataW.trod_int Try.underlying26 s0
  obtain ⟨ys, m, _, hys, _, hlen, hi⟩ := DataW.trod_array Try.underlying28 s1
  have t0 := hi 0 (by omega)
  have t1 := hi 1 (by omega)
  rw [List.getElem?_eq_getElem (by omega)] at t0 t1
  have hw : ∀ (j : Nat) (hj : j < ys.length), Light Try.prog 27 ys[j].1 := fun j hj n hn => hy n (by
    rw [hys]
    simp only [DataW.weights, Try.underlying28]
    exact weights_all_mem (List.mem_map_of_mem (List.getElem_mem hj)) n hn)
  obtain ⟨A0, n0, c0, l0, e1, h0, z0⟩ := open_row_w t0 (hw 0 (by omega))
  obtain ⟨A1, n1, c1, l1, e2, h1, z1⟩ := open_row_w t1 (hw 1 (by omega))
  simp [cellsU64E, cellsRowE, cellsRowsE] at e0 e1 e2
  subst e0 e1 e2
  exact ⟨R, A0, A1, n0, c0, n1, c1, l0, l1, rfl, h0, h1, wf_u64 w0, z0, z1⟩
end
set_option maxRecDepth 1000000 in
/-- law_row, with what the form says of sizes -/
theorem law_row_w (os : Os) (started : os.Started) (H : Type) (enc : TypeId × Value → H) {f : FuncId} {F : Func} (spec : ChangeSpec)
    (hv : spec.vars = []) (hspec : ∀ ds : List (DataW H), ds.length = F.params.toList.length → spec.fn H (ds ++ []) = { results := [.lit (.bool true)], args := ds })
    (hnoinit : Try.checked.prog.inits.idxOf? f = none) (hfn : Try.checked.prog.funcs[f]? = some F) (hres : F.resultTypes = #[4])
    (hread : ∀ t ∈ F.params.toList, Try.prog.readableRec t = true ∧ t < Try.prog.types.size)
    (witness : ∃ (w : World) (tape : Tape) (i : Input), w.os = os ∧ (w.forCall tape i).Shaped Try.checked.prog ∧ i.vars = [] ∧ Input.okWide Try.checked.prog (w.forCall tape i) .any w.heap.size f i ∧
      spec.pre6 enc Try.checked.prog F [] false (w.forCall tape i).memory i.args ∧ ({} : Assume).holds Try.checked.prog (lone (Frame.enter Try.checked.prog f i.args .normal) [] (w.forCall tape i)))
    (walk : ∀ (W : World) (base : Nat) (args : Array Value) (ds : List (DataW H)) (ps : List MemPlace),
      (∀ (j : Nat) t v, F.params[j]? = some t → args[j]? = some v → Value.okWide Try.prog W .any base t v) →
      DataW.TrodAll enc Try.prog W 0 (fun _ => true) true F.params.toList args.toList ds ps →
      (∀ x ∈ ps, x.block < W.heap.size) → (∀ (j : Nat) t d, F.params.toList[j]? = some t → ds[j]? = some d → Light Try.prog t d) →
      Calls Try.prog f args W fun e W' => e = .returned (.bool true) ∧ Below W.heap.size W W') :
    ReturnsInHanded {} Try.checked os f .any (spec.pre6 enc Try.prog F [] false) (spec.post enc Try.prog F false true false false) := by
  refine returnsInHanded_of_change_sized (C := Try.checked) own started hnoinit hfn witness ?_
  intro W base args ds gs before hval hW _ hz _
  have hW' := hW
  have hlt : ∀ x ∈ before, x.block < W.heap.size := fun x hx => hW'.lt x hx
  obtain ⟨p, q, hA, hV, rfl, hfz, hnd⟩ := hW
  rw [hv] at hV
  obtain ⟨rfl, rfl⟩ := trodVars_none hV
  have hvt : spec.plain.varTypes Try.checked.prog = [] := by simp [DataSpec.varTypes, ChangeSpec.plain, hv]
  rw [hvt, List.append_nil, List.append_nil] at hz
  have hlen : ds.length = F.params.toList.length := by
    have : ∀ (ts : List TypeId) (vs : List Value) (ds : List (DataW H)) (ps : List MemPlace), DataW.TrodAll enc Try.checked.prog W 0 (fun _ => true) true ts vs ds ps → ds.length = ts.length := by
      intro ts
      induction ts with
      | nil => intro vs ds ps h; obtain ⟨_, rfl, _⟩ := trodAll_nil h; rfl
      | cons t ts ih => intro vs ds ps h; obtain ⟨v, vs', d, ds', p, q, rfl, rfl, rfl, _, h2⟩ := trodAll_cons h; simp [ih _ _ _ h2]
    exact this _ _ _ _ hA
  refine (walk W base args ds p hval hA (fun x hx => hlt x (by simp [hx])) fun j t d ht hd n hn => ?_).mono fun e W' ⟨he, hb⟩ => ?_
  · have := List.all_eq_true.1 hz n (DataW.weights_mem_each ht hd n hn)
    simpa using this
  subst he
  refine ⟨_, rfl, ds, [], p ++ [], [], p, [], hW', ?_, ?_, ?_, hb.frame _, fun h => by cases h⟩
  · rw [hspec ds hlen, hres]
    exact trodAll_mk1 (shut_bool Try.underlying4 true)
  · rw [hspec ds hlen]
    exact trodAll_below laid hb _ _ _ _ hread hA (fun x hx => hlt x (by simp [hx]))
  · rw [hv, hspec ds hlen]
    rfl
end Go.Proofs.Ytennnhfaghdeoaa
