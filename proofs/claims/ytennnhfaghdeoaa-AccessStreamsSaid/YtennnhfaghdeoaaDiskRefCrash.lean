import Derived.Test.YtennnhfaghdeoaaDiskRefOps
import Derived.Test.YtennnhfaghdeoaaDiskKey
import Derived.Test.YtennnhfaghdeoaaDiskCrash
import Derived.Test.YtennnhfaghdeoaaSureB
namespace Go.Proofs.Ytennnhfaghdeoaa
open Go.RowKit

/-! wealdref07.Crash. -/
/-- what a stream holds, and how much of it is synced -/
def cutKey (k : Key) (m : Int) : Key := (k.1.take (cutN k.1.length k.2 m), (cutN k.1.length k.2 m : Int))
def cutK (ms : List Int) (K : List Key) : List Key := K.mapIdx fun i k => cutKey k (ms.getD i 0)
theorem cutK_at (ms : List Int) (K : List Key) (i : Nat) : (cutK ms K)[i]? = (K[i]?).map fun k => cutKey k (ms.getD i 0) := by simp [cutK, List.getElem?_mapIdx]
theorem cutK_length (ms : List Int) (K : List Key) : (cutK ms K).length = K.length := by simp [cutK]
theorem cutK_next {ms : List Int} {K : List Key} {j : Nat} {k : Key} (h : K[j]? = some k) : (cutK ms K).take (j + 1) = (cutK ms K).take j ++ [cutKey k (ms.getD j 0)] := by
  have h1 : (cutK ms K)[j]? = some (cutKey k (ms.getD j 0)) := by rw [cutK_at, h]; rfl
  obtain ⟨hl, he⟩ := List.getElem?_eq_some_iff.1 h1
  rw [List.take_succ_eq_append_getElem hl, he]
/-- a stream that may be read, whose bytes lie in a block of bytes -/
def OKT (w : World) (s : St) : Prop := StOK w s ∧ (s.d ≠ [] → ∃ a cur, s.D = some a ∧ w.heap[a.block]? = some (.cells cur 5 (0, 0)))
theorem OKT.ext {w w' : World} {s : St} (h : OKT w s) (hx : Ext w w') : OKT w' s := ⟨h.1.ext hx, fun hd => let ⟨a, cur, e, hh⟩ := h.2 hd; ⟨a, cur, e, heap_ext hh hx⟩⟩
theorem OKT.kept {w w' : World} {s : St} (h : OKT w s) (hk : ∀ (g : Nat) (cur : Array Value), w.heap[g]? = some (Obj.cells cur 5 (0, 0)) → w'.heap[g]? = some (Obj.cells cur 5 (0, 0))) : OKT w' s := by
  refine ⟨⟨h.1.len, h.1.le, h.1.cap, h.1.nil, fun hn => ?_⟩, fun hd => let ⟨a, cur, e, hh⟩ := h.2 hd; ⟨a, cur, e, hk _ _ hh⟩⟩
  obtain ⟨a, ha, hc⟩ := h.1.cells hn
  obtain ⟨b, cur, hb, hh⟩ := h.2 (fun e => hn (by rw [e]; rfl))
  obtain rfl : a = b := by rw [ha] at hb; exact Option.some.inj hb
  refine ⟨a, ha, fun j u hu => ?_⟩
  rw [World.cell?_of_block (w := w) (by rw [add_block, hk _ _ hh, hh])]
  exact hc j u hu
theorem OKT.wild {w w' : World} {s : St} (h : OKT w s) (hx : WildR 90 w w') : OKT w' s := h.kept fun g cur hg => hx.2 g cur _ _ hg (by decide)
theorem OKT.box {w : World} {s : St} {g i : Nat} {u : Value} {c : Array Value} {fr : Nat × Nat} (h : OKT w s) (hg : w.heap[g]? = some (.cells c 30 fr)) : OKT (w.setCell ⟨g, i, none⟩ u) s := h.kept fun k cur hk => by
  rw [Below.heap_setCell _ _ _ _ (show k ≠ g from fun e => by subst e; rw [hg] at hk; injection hk with hk; injection hk with _ hk; exact absurd hk (by decide))]
  exact hk
/-- append onto a row of the call's own: which block may turn -/
theorem run_append_own_s {P : Program} {w : World} (base : Nat) (t ty e : TypeId) (i : TypeInfo) (z : Value) (size bytes : Nat) (ht : P.underlying t = some (.slice e)) (hi : P.info? e = some i) (hz : i.zero = some z)
    (hsize : i.size = size) (hby : i.bytes = bytes) (hzs : z.cells.size = size) (hsz : 0 < size)
    (v : Value) (n : Nat) (xs : List Value) (hown : w.ownsRow base e size v n xs)
    (b : Addr) (m c : Nat) (news : List Value) (hl : news.length = m * size) (hnews : ∀ j u, news[j]? = some u → w.cell? (b.add j) = some u) (h1 : ∀ u ∈ news, u.oneCell' = true)
    (h63 : n + m ≤ maxLen) (hbytes : (n + m) * bytes ≤ 140737488355328) (hbase : base ≤ w.heap.size) (gB : Nat) (hB : ∀ k, v.ownBlock = some k → k = gB) :
    ∃ v' w', (Builtin.append_ #[t, t] ty #[v, .slice (some b) m c]).run P w = .ok v' w' ∧ w'.ownsRow base e size v' (n + m) (xs ++ news) ∧ SB.ExtS [gB] w w' ∧ WildR e w w' := by
  obtain ⟨v', w', hr, h2, h3, _⟩ := run_append_own (P := P) (w := w) base t ty e i z size bytes ht hi hz hsize hby hzs hsz v n xs hown b m c news hl hnews h1 h63 hbytes hbase
  refine ⟨v', w', hr, h2, ⟨h3.os, h3.tape, h3.output, h3.size, fun k hk hn => h3.block k hk fun e' => hn (by rw [hB k e'.symm]; exact List.mem_singleton.2 rfl)⟩, h3.size, fun g c T fr hg hT => ?_⟩
  rw [h3.block g (Array.getElem?_eq_some_iff.1 hg).1 (fun e' => ?_)]
  · exact hg
  · rcases hown.2 with ⟨rfl, _⟩ | ⟨g', cap, cur, rfl, _, h5, _⟩
    · cases e'
    · have : g = g' := by simpa [Value.ownBlock] using e'
      subst this
      rw [h5] at hg
      injection hg with hg
      injection hg with _ hg
      exact hT hg.symm
theorem own_kept {w w' : World} {base : Nat} {v : Value} {n : Nat} {xs : List Value} (h : w.ownsRow base 90 2 v n xs) (hk : ∀ g, v.ownBlock = some g → w'.heap[g]? = w.heap[g]?) : w'.ownsRow base 90 2 v n xs := by
  refine ⟨h.1, ?_⟩
  rcases h.2 with h2 | ⟨g, cap, cur, h3, h4, h5, h6⟩
  · exact .inl h2
  · exact .inr ⟨g, cap, cur, h3, h4, (hk g (by rw [h3]; rfl)).trans h5, h6⟩
theorem own_rowV {w : World} {base : Nat} {A : Option Addr} {n c : Nat} {l : List St} (h : w.ownsRow base 90 2 (.slice A n c) n (rowCells l)) (hok : ∀ s ∈ l, OKT w s) : RowV w A n c l := by
  obtain ⟨A', c', hv, hr⟩ := OwnR.form (⟨h, fun s hs => (hok s hs).1⟩ : OwnR w base (.slice A n c) n l)
  cases hv
  exact hr
theorem own_bound {w : World} {base : Nat} {v : Value} {n : Nat} {xs : List Value} (h : w.ownsRow base 90 2 v n xs) : ∃ gB, base ≤ gB ∧ (∀ k, v.ownBlock = some k → k = gB) := by
  rcases h.2 with ⟨rfl, _⟩ | ⟨g, cap, cur, rfl, h4, _⟩
  · exact ⟨base, Nat.le_refl _, fun k hk => by cases hk⟩
  · exact ⟨g, h4, fun k hk => (Option.some.inj hk).symm⟩
/-- the cut stream -/
def CutS (s : St) (m : Int) (w : World) (v : Value) : Prop := ∃ s' : St, v = .agg #[.slice s'.D s'.q s'.cd, .int .i64 s'.k] ∧ OKT w s' ∧ s'.key = cutKey s.key m
def OneS (s : St) (m : Int) (w : World) (v : Value) : Prop := ∃ (s' : St) (g : Nat), v = .slice (some ⟨g, 0, none⟩) 1 1 ∧ w.heap[g]? = some (.cells #[.slice s'.D s'.q s'.cd, .int .i64 s'.k] 90 (0, 0)) ∧ OKT w s' ∧ s'.key = cutKey s.key m
def RowS (base n : Nat) (L L' : List St) (s : St) (m : Int) (w : World) (v : Value) : Prop := ∃ (s' : St) (A : Option Addr) (c : Nat), v = .slice A (n + 1) c ∧ w.ownsRow base 90 2 (.slice A (n + 1) c) (n + 1) (rowCells (L ++ [s'])) ∧ (∀ x ∈ L ++ [s'] ++ L', OKT w x) ∧ s'.key = cutKey s.key m
theorem CutS.ext {s : St} {m : Int} {w w' : World} {v : Value} (h : CutS s m w v) (hx : Ext w w') : CutS s m w' v := let ⟨s', e, h1, h2⟩ := h; ⟨s', e, h1.ext hx, h2⟩
theorem OneS.ext {s : St} {m : Int} {w w' : World} {v : Value} (h : OneS s m w v) (hx : Ext w w') : OneS s m w' v := let ⟨s', g, e, h0, h1, h2⟩ := h; ⟨s', g, e, heap_ext h0 hx, h1.ext hx, h2⟩
theorem RowS.ext {base n : Nat} {L L' : List St} {s : St} {m : Int} {w w' : World} {v : Value} (h : RowS base n L L' s m w v) (hx : Ext w w') : RowS base n L L' s m w' v := let ⟨s', A, c, e, h0, h1, h2⟩ := h; ⟨s', A, c, e, ownsRow_ext h0 hx, fun x hm => (h1 x hm).ext hx, h2⟩
theorem cutS_any (s : St) (m : Int) (w : World) (h : StOK w s) (hr : rightB s.key.2 s.key.1.length = true ∧ s.key.1.length ≤ 65536) :
    Calls Try.prog 49 #[.agg #[.slice s.D s.q s.cd, .int .i64 s.k], .int .i64 m] w fun e w' => ∃ v, e = .returned v ∧ Ext w w' ∧ CutS s m w' v := by
  have hlen : s.key.1.length = s.q := h.len
  rw [hlen] at hr
  obtain ⟨h0, h1⟩ := rightB_spec hr.1
  refine (rcut_new s.D s.q s.cd s.k m s.d w h hr.2 h0 h1).mono ?_
  rintro e w' ⟨A', c', rfl, hb, ht, hx⟩
  refine ⟨_, rfl, hx, ⟨A', cutN s.q s.k m, c', cutN s.q s.k m, s.d.take (cutN s.q s.k m)⟩, rfl, ⟨hb, ht⟩, ?_⟩
  simp only [St.key, cutKey]
  rw [show s.d.length = s.q from h.len]
theorem one_made (s : St) (m : Int) (w : World) (v : Value) (h : CutS s m w v) : ∃ v' w', (Instr.buildSlice 27 1 #[(0, v)]).run Try.prog w = .ok v' w' ∧ Ext w w' ∧ OneS s m w' v' := by
  obtain ⟨s', rfl, h1, h2⟩ := h
  have hb : (Instr.buildSlice 27 1 #[(0, .agg #[.slice s'.D s'.q s'.cd, .int .i64 s'.k])]).run Try.prog w = .ok (.slice (some ⟨w.heap.size, 0, none⟩) 1 1) (w.alloc (.cells #[.slice s'.D s'.q s'.cd, .int .i64 s'.k] 90)) := by kernel_rfl
  have hx : Ext w (w.alloc (.cells #[.slice s'.D s'.q s'.cd, .int .i64 s'.k] 90)) := (Below.refl _ w).alloc (Nat.le_refl _) _
  exact ⟨_, _, hb, hx, s', w.heap.size, rfl, heap_alloc_new w _, h1.ext hx, h2⟩
theorem row_more {base n : Nat} {L L' : List St} {s : St} {m : Int} {w : World} {v v1 : Value} (hown : w.ownsRow base 90 2 v n (rowCells L)) (hL : ∀ x ∈ L ++ L', OKT w x) (h : OneS s m w v1) (hn : n ≤ 65536) (hb : base ≤ w.heap.size) (gB : Nat) (hB : ∀ k, v.ownBlock = some k → k = gB) :
    ∃ v' w', (Builtin.append_ #[27, 27] 27 #[v, v1]).run Try.prog w = .ok v' w' ∧ SB.ExtS [gB] w w' ∧ RowS base n L L' s m w' v' := by
  obtain ⟨i0, hi0, hz0, hz1, hz2⟩ := info_parts info_stream
  obtain ⟨s', g, rfl, hg, h1, h2⟩ := h
  obtain ⟨v', w', hr, ho, hx, hw⟩ := run_append_own_s (P := Try.prog) (w := w) base 27 27 90 i0 _ 2 32 Try.underlying27 hi0 hz0 hz1 hz2 rfl (by decide) v n (rowCells L) hown ⟨g, 0, none⟩ 1 1 s'.cells rfl
    (fun j u hu => by
      match j, hu with
      | 0, hu => simp [St.cells] at hu; subst hu; simp [World.cell?, Addr.add, hg]
      | 1, hu => simp [St.cells] at hu; subst hu; simp [World.cell?, Addr.add, hg]) (by intro u hu; simp [St.cells] at hu; rcases hu with rfl | rfl <;> rfl) (by simp only [maxLen]; omega) (by omega) hb gB hB
  have ho2 : w'.ownsRow base 90 2 v' (n + 1) (rowCells (L ++ [s'])) := by rw [rowCells_append]; simpa [rowCells] using ho
  refine ⟨v', w', hr, hx, ?_⟩
  obtain ⟨A, c, rfl⟩ : ∃ A c, v' = .slice A (n + 1) c := by
    rcases ho2.2 with ⟨e, e1⟩ | ⟨g', cap, cur, e, _⟩
    · omega
    · exact ⟨_, _, e⟩
  refine ⟨s', A, c, rfl, ho2, fun x hxm => ?_, h2⟩
  simp only [List.mem_append, List.mem_singleton] at hxm
  rcases hxm with (hxm | rfl) | hxm
  · exact (hL x (List.mem_append_left _ hxm)).wild hw
  · exact h1.wild hw
  · exact (hL x (List.mem_append_right _ hxm)).wild hw
set_option maxRecDepth 100000 in
set_option maxHeartbeats 8000000 in
theorem rcrash_any (R : Int) (A0 A1 : Option Addr) (n c0 c1 : Nat) (l0 l1 : List St) (M : Option Addr) (nM cM : Nat) (ms : List Int) (w : World) (h0 : RowV w A0 n c0 l0) (h1 : RowV w A1 n c1 l1) (hn : n ≤ 1000) (hm : nM ≤ 65536)
    (hr0 : ∀ k ∈ l0.map St.key, rightB k.2 k.1.length = true ∧ k.1.length ≤ 65536) (hr1 : ∀ k ∈ l1.map St.key, rightB k.2 k.1.length = true ∧ k.1.length ≤ 65536) (hM : IntsV w M nM cM ms) :
    Calls Try.prog 39 #[.agg #[.int .u64 R, .slice A0 n c0, .slice A1 n c1], .slice M nM cM] w fun e w' => ∃ (A0' A1' : Option Addr) (c0' c1' : Nat) (L0 L1 : List St), e = .returned (.agg #[.int .u64 R, .slice A0' n c0', .slice A1' n c1']) ∧
      RowV w' A0' n c0' L0 ∧ RowV w' A1' n c1' L1 ∧ L0.map St.key = cutK ms (l0.map St.key) ∧ L1.map St.key = cutK (ms.drop n) (l1.map St.key) ∧ Ext w w' := by
  have hlen0 := h0.len
  have hlen1 := h1.len
  have hlenM := hM.len
  have hb : ∀ W : World, (Instr.build 30 #[(0, .int .u64 R)]).run Try.prog W = .ok (.agg #[.int .u64 R, .slice none 0 0, .slice none 0 0]) W := fun _ => by kernel_rfl
  go_enter Try.func39, Try.ntmps39
  go_upto_region 1 with (fail)
  obtain ⟨hW, hE, hO⟩ := two_boxes7 w (.cells #[.int .u64 R, .slice A0 n c0, .slice A1 n c1] 30) (.cells #[.int .u64 0, .slice none 0 0, .slice none 0 0] 30)
  generalize (w.alloc (.cells #[.int .u64 R, .slice A0 n c0, .slice A1 n c1] 30)).alloc (.cells #[.int .u64 0, .slice none 0 0, .slice none 0 0] 30) = W at *
  have e0 : W.cell? ⟨w.heap.size, 0, none⟩ = some (.int .u64 R) := by simp [World.cell?, hE]
  have e1 : W.cell? ⟨w.heap.size, 1, none⟩ = some (.slice A0 n c0) := by simp [World.cell?, hE]
  have e2 : W.cell? ⟨w.heap.size, 2, none⟩ = some (.slice A1 n c1) := by simp [World.cell?, hE]
  go_upto_region 3 with (fail)
  obtain ⟨hlt, hWx, hGO⟩ : w.heap.size + 1 < W.heap.size ∧ Ext W (W.alloc (.cells #[.int .u64 R, .slice none 0 0, .slice none 0 0] 30)) ∧ (W.alloc (.cells #[.int .u64 R, .slice none 0 0, .slice none 0 0] 30)).heap[W.heap.size]? = some (.cells #[.int .u64 R, .slice none 0 0, .slice none 0 0] 30 (0, 0)) :=
    ⟨(Array.getElem?_eq_some_iff.1 hO).1, (Below.refl _ W).alloc (Nat.le_refl _) _, heap_alloc_new W _⟩
  have hsz : W.heap.size + 1 ≤ (W.alloc (.cells #[.int .u64 R, .slice none 0 0, .slice none 0 0] 30)).heap.size := (Array.getElem?_eq_some_iff.1 hGO).1
  clear e0 e1 e2 hb
  generalize W.alloc (.cells #[.int .u64 R, .slice none 0 0, .slice none 0 0] 30) = W1 at *
  have hK0 : (l0.map St.key).length = n := by rw [List.length_map, hlen0]
  have hK1 : (l1.map St.key).length = n := by rw [List.length_map, hlen1]
  have hw2 : IntKind.i64.wrap (2 * (n : Int)) = 2 * (n : Int) := by rw [IntKind.wrap_i64]; omega
  have HE := Lib.hid hE
  have HO := Lib.hid hO
  have HLT := Lib.hid hlt
  clear hE hO hlt
  go_wp2
  go_loopw [7, 8] (fun kv mv wr => ∃ (j : Nat) (B0 B1 : Option Addr) (b0 b1 : Nat) (L0 L1 : List St) (base1 : Nat), j ≤ 2 * n ∧ kv = .int .i64 j ∧ wr.heap[W.heap.size]? = some (.cells #[.int .u64 R, .slice B0 (min j n) b0, .slice B1 (j - n) b1] 30 (0, 0)) ∧ Ext W wr ∧
    wr.ownsRow (W.heap.size + 1) 90 2 (.slice B0 (min j n) b0) (min j n) (rowCells L0) ∧ wr.ownsRow base1 90 2 (.slice B1 (j - n) b1) (j - n) (rowCells L1) ∧ (∀ x ∈ L0 ++ L1, OKT wr x) ∧
    L0.map St.key = (cutK ms (l0.map St.key)).take j ∧ L1.map St.key = (cutK (ms.drop n) (l1.map St.key)).take (j - n) ∧ W.heap.size + 1 ≤ base1 ∧ base1 ≤ wr.heap.size ∧
    ((j < n ∧ B1 = none ∧ b1 = 0 ∧ L1 = []) ∨ (n ≤ j ∧ ∀ a, B0 = some a → a.block < base1))) (fun kv _ _ => 2 * n - (intOf kv).toNat)
  case atStart =>
    refine ⟨0, none, none, 0, 0, [], [], W1.heap.size, Nat.zero_le _, rfl, by rw [Nat.zero_min, Nat.zero_sub]; exact hGO, hWx, by rw [Nat.zero_min]; exact World.ownsRow_nil _ _ _ _, by rw [Nat.zero_sub]; exact World.ownsRow_nil _ _ _ _, (fun x hx => by cases hx), rfl, by rw [Nat.zero_sub]; rfl, hsz, Nat.le_refl _, ?_⟩
    rcases Nat.eq_zero_or_pos n with h | h
    · exact .inr ⟨by omega, fun a ha => by cases ha⟩
    · exact .inl ⟨h, rfl, rfl, rfl⟩
  case round =>
    obtain ⟨j, B0, B1, b0, b1, L0, L1, base1, hj, rfl, hG, hx, hown0, hown1, hok, hk0, hk1, hb1, hb2, hph⟩ := hrel
    clear hWx hGO hsz
    have hbW := hx.size
    rcases Nat.lt_or_ge j (2 * n) with hj2 | hj2
    · have hjI : (j : Int) < 2 * (n : Int) := by omega
      have hnz : ¬ n = 0 := by omega
      rcases hph with ⟨hjn, rfl, rfl, rfl⟩ | ⟨hjn, hfar⟩
      · have hmin : min j n = j := by omega
        have hmi2 : min (j + 1) n = j + 1 := by omega
        have hsub : j - n = 0 := by omega
        have hsb2 : j + 1 - n = 0 := by omega
        simp only [hmin, hsub] at hG hown0 hown1
        have hq : Int.tdiv (j : Int) (n : Int) = 0 := by rw [Int.tdiv_eq_ediv_of_nonneg (by omega)]; exact Int.ediv_eq_zero_of_lt (by omega) (by omega)
        have hr : Int.tmod (j : Int) (n : Int) = (j : Int) := by rw [Int.tmod_eq_emod_of_nonneg (by omega)]; exact Int.emod_eq_of_lt (by omega) (by omega)
        have hwq : IntKind.i64.wrap (0 : Int) = 0 := by decide
        have hwr : IntKind.i64.wrap (j : Int) = (j : Int) := by rw [IntKind.wrap_i64]; omega
        obtain ⟨s, hs, hmem⟩ : ∃ s, l0[j]? = some s ∧ s ∈ l0 := ⟨l0[j]'(by omega), List.getElem?_eq_getElem _, List.getElem_mem _⟩
        have hbb : W.heap.size + 1 ≤ wr.heap.size := by omega
        obtain ⟨gB, hgB1, hgB2⟩ := own_bound hown0
        have hgO : gB ≠ W.heap.size := by omega
        have hrowx := h0.ext (hW.trans hx)
        obtain ⟨a, hA, a0, a1, aok⟩ := hrowx.at hs
        subst hA
        have hkr := hr0 s.key (List.mem_map.2 ⟨s, hmem, rfl⟩)
        have HG := Lib.hid hG
        have hX : ∀ wx, SB.ExtS [] wr.drew wx → wx.cell? ⟨W.heap.size, 1, none⟩ = some (.slice B0 j b0) ∧ wx.cell? ⟨w.heap.size, 1, none⟩ = some (.slice (some a) n c0) ∧ wx.cell? (a.add (j * 2)) = some (.slice s.D s.q s.cd) ∧ wx.cell? ⟨(a.add (j * 2)).block, (a.add (j * 2)).off + 1, none⟩ = some (.int .i64 s.k) ∧ StOK wx s ∧ Ext wr wx := fun wx hh =>
          have hh' : Ext wr wx := hh.ext.drawn
          ⟨hh'.cell (by simp [World.cell?, HG.out]), (hx.trans hh').cell (by simp [World.cell?, HE.out]), hh'.cell a0, hh'.cell a1, StOK.ext aok hh', hh'⟩
        clear hG
        have hlm : ∀ x ∈ L0 ++ [], OKT wr x := fun x hm => hok x (by simp only [List.mem_append] at hm ⊢; exact hm)
        rcases Nat.lt_or_ge j nM with hjm | hjm
        · have hxm := hx
          have hjmI : (j : Int) < (nM : Int) := by omega
          obtain ⟨z, hz, hgz⟩ : ∃ z, ms[j]? = some z ∧ ms.getD j 0 = z := ⟨ms[j]'(by omega), List.getElem?_eq_getElem _, by simp [List.getD_eq_getElem?_getD, List.getElem?_eq_getElem (show j < ms.length by omega)]⟩
          obtain ⟨aM, hMA, hMc⟩ := hM.at_ j z hz
          subst hMA
          have hMc' := (hW.trans hx).cell hMc
          go_upto_region 9 with (fail)
          refine' SB.wp_region_sure (gx := [(23, gB)]) (Pn := fun _ _ => False) ⟨((some 30, [], none) :: (some 31, [], none) :: (some 32, [0, 1], none) :: (some 33, [], none) :: (some 34, [], none) :: (some 35, [3, 4], none) :: (some 36, [], none) :: (some 37, [6, 5], none) :: (some 38, [7], none) :: (some 39, [], none) :: (some 40, [], none) :: (some 41, [9, 10], none) :: (some 42, [], none) :: (some 43, [12, 11], none) :: (some 44, [13], none) :: (some 45, [], none) :: (some 46, [], none) :: (some 47, [15, 16], none) :: (some 48, [14, 17], none) :: (some 49, [18], none) :: (some 50, [], none) :: (some 51, [19, 20], none) :: (some 52, [21], none) :: (some 53, [8, 22, 21], none) :: (some 54, [], none) :: (some 55, [24, 2, 0, 1, 2, 3, 4, 5, 6, 7, 8, 9, 10, 11, 12, 13, 14, 15, 16, 17, 18, 19, 20, 21, 22, 23], none) :: (none, [25, 23, 23, 0, 1, 2, 3, 4, 5, 6, 7, 8, 9, 10, 11, 12, 13, 14, 15, 16, 17, 18, 19, 20, 21, 22, 23], none) :: []), (0 :: 0 :: 3 :: 0 :: 0 :: 24 :: 0 :: 120 :: 248 :: 0 :: 0 :: 1536 :: 0 :: 7680 :: 15872 :: 0 :: 0 :: 98304 :: 261632 :: 523776 :: 0 :: 2096640 :: 4193792 :: 8388600 :: 0 :: 33554431 :: 67108863 :: []), (none :: none :: none :: none :: none :: none :: none :: none :: none :: none :: none :: none :: none :: none :: none :: none :: none :: none :: none :: none :: none :: some [] :: some [] :: some [] :: none :: []), [23]⟩ 25 57 ((0, 30) :: (1, 31) :: (2, 32) :: (3, 33) :: (4, 34) :: (5, 35) :: (6, 36) :: (7, 37) :: (8, 38) :: (9, 39) :: (10, 40) :: (11, 41) :: (12, 42) :: (13, 43) :: (14, 44) :: (15, 45) :: (16, 46) :: (17, 47) :: (18, 48) :: (19, 49) :: (20, 50) :: (21, 51) :: (22, 52) :: (23, 53) :: (24, 54) :: []) ((0, 30) :: (1, 31) :: (2, 32) :: (3, 33) :: (4, 34) :: (5, 35) :: (6, 36) :: (7, 37) :: (8, 38) :: (9, 39) :: (10, 40) :: (11, 41) :: (12, 42) :: (13, 43) :: (14, 44) :: (15, 45) :: (16, 46) :: (17, 47) :: (18, 48) :: (19, 49) :: (20, 50) :: (23, 53) :: (24, 54) :: []) (.det _ :: .det _ :: .det _ :: .det _ :: .det _ :: .det _ :: .det _ :: .det _ :: .det _ :: .det _ :: .det _ :: .det _ :: .det _ :: .det _ :: .det _ :: .det _ :: .det _ :: .det _ :: .det _ :: .det _ :: .det _ :: SB.Good.of (fun v w => CutS s z w v) (fun v w w' h hx => CutS.ext h hx) :: SB.Good.of (fun v w => OneS s z w v) (fun v w w' h hx => OneS.ext h hx) :: SB.Good.of (fun v w => RowS (W.heap.size + 1) j L0 [] s z w v) (fun v w w' h hx => RowS.ext h hx) :: .det _ :: []) (by kernel_rfl) ?hpan (by kernel_rfl) (by kernel_rfl) rfl (by kernel_rfl) (by kernel_rfl) rfl ?hone ?hend
          case hpan =>
            intro _ _ _ _ h; exact h.elim
          case hone =>
            intro CS frS VS hCS ha hV
            have qs2 := slot_val (t := 2) ha rfl
            simp only [List.getElem_toArray, List.getElem_cons_succ, List.getElem_cons_zero] at qs2
            have qs5 := slot_val (t := 5) ha rfl
            simp only [List.getElem_toArray, List.getElem_cons_succ, List.getElem_cons_zero] at qs5
            have qs6 := slot_val (t := 6) ha rfl
            simp only [List.getElem_toArray, List.getElem_cons_succ, List.getElem_cons_zero] at qs6
            have qs7 := slot_val (t := 7) ha rfl
            simp only [List.getElem_toArray, List.getElem_cons_succ, List.getElem_cons_zero] at qs7
            have qs8 := slot_val (t := 8) ha rfl
            simp only [List.getElem_toArray, List.getElem_cons_succ, List.getElem_cons_zero] at qs8
            have HCS := Lib.hid hCS
            have HVS := Lib.hid hV
            clear ha hCS hV
            -- 0: slot 30 := Op.move t7
            refine SB.sure_det (js := []) (ts := [7]) (gd := none) (bs := [gB]) (SB.place_at HVS.out (k := 0) rfl) (by rw [HCS.out]; kernel_rfl) (by rw [HCS.out]; kernel_rfl) ?_ ?_
            · intro wx hx ρ hρ hs hf
              have hρc := hρ.const
              have hρf := hρ.func
              obtain ⟨fx7, -⟩ := hf
              rw [qs7] at fx7
              clear hs
              clear HCS HVS qs2 qs5 qs6 qs7 qs8
              refine SB.run_plain ?_
              refine SB.op_move rfl fx7 ?_
              exact SB.detK.mk
            -- 1: slot 31 := Op.move t5
            refine SB.sure_det (js := []) (ts := [5]) (gd := none) (bs := [gB]) (SB.place_at HVS.out (k := 1) rfl) (by rw [HCS.out]; kernel_rfl) (by rw [HCS.out]; kernel_rfl) ?_ ?_
            · intro wx hx ρ hρ hs hf
              have hρc := hρ.const
              have hρf := hρ.func
              obtain ⟨fx5, -⟩ := hf
              rw [qs5] at fx5
              clear hs
              clear HCS HVS qs2 qs5 qs6 qs7 qs8
              refine SB.run_plain ?_
              refine SB.op_move rfl fx5 ?_
              exact SB.detK.mk
            -- 2: slot 32 := Op.binOp BinOp.quo 3 t30 t31 3
            refine SB.sure_det (js := [(0, 30), (1, 31)]) (ts := []) (gd := none) (bs := [gB]) (SB.place_at HVS.out (k := 2) rfl) (by rw [HCS.out]; kernel_rfl) (by rw [HCS.out]; kernel_rfl) ?_ ?_
            · intro wx hx ρ hρ hs hf
              have hρc := hρ.const
              have hρf := hρ.func
              obtain ⟨sn0, sn1, -⟩ := hs
              rw [SB.place_at HVS.out (k := 0) rfl] at sn0
              replace sn0 : ρ (.tmp 30) = _ := sn0
              rw [SB.place_at HVS.out (k := 1) rfl] at sn1
              replace sn1 : ρ (.tmp 31) = _ := sn1
              clear hf
              clear HCS HVS qs2 qs5 qs6 qs7 qs8
              refine SB.run_plain ?_
              unfold SB.runs
              go_simp
              exact SB.detK.mk
            -- 3: slot 33 := Op.move t7
            refine SB.sure_det (js := []) (ts := [7]) (gd := none) (bs := []) (SB.place_at HVS.out (k := 3) rfl) (by rw [HCS.out]; kernel_rfl) (by rw [HCS.out]; kernel_rfl) ?_ ?_
            · intro wx hx ρ hρ hs hf
              have hρc := hρ.const
              have hρf := hρ.func
              obtain ⟨fx7, -⟩ := hf
              rw [qs7] at fx7
              clear hs
              clear HCS HVS qs2 qs5 qs6 qs7 qs8
              refine SB.run_plain ?_
              refine SB.op_move rfl fx7 ?_
              exact SB.detK.mk
            -- 4: slot 34 := Op.move t5
            refine SB.sure_det (js := []) (ts := [5]) (gd := none) (bs := []) (SB.place_at HVS.out (k := 4) rfl) (by rw [HCS.out]; kernel_rfl) (by rw [HCS.out]; kernel_rfl) ?_ ?_
            · intro wx hx ρ hρ hs hf
              have hρc := hρ.const
              have hρf := hρ.func
              obtain ⟨fx5, -⟩ := hf
              rw [qs5] at fx5
              clear hs
              clear HCS HVS qs2 qs5 qs6 qs7 qs8
              refine SB.run_plain ?_
              refine SB.op_move rfl fx5 ?_
              exact SB.detK.mk
            -- 5: slot 35 := Op.binOp BinOp.quo 3 t33 t34 3
            refine SB.sure_det (js := [(3, 33), (4, 34)]) (ts := []) (gd := none) (bs := []) (SB.place_at HVS.out (k := 5) rfl) (by rw [HCS.out]; kernel_rfl) (by rw [HCS.out]; kernel_rfl) ?_ ?_
            · intro wx hx ρ hρ hs hf
              have hρc := hρ.const
              have hρf := hρ.func
              obtain ⟨sn3, sn4, -⟩ := hs
              rw [SB.place_at HVS.out (k := 3) rfl] at sn3
              replace sn3 : ρ (.tmp 33) = _ := sn3
              rw [SB.place_at HVS.out (k := 4) rfl] at sn4
              replace sn4 : ρ (.tmp 34) = _ := sn4
              clear hf
              clear HCS HVS qs2 qs5 qs6 qs7 qs8
              refine SB.run_plain ?_
              unfold SB.runs
              go_simp
              exact SB.detK.mk
            -- 6: slot 36 := Op.fieldAddr 30 t6 1
            refine SB.sure_det (js := []) (ts := [6]) (gd := none) (bs := []) (SB.place_at HVS.out (k := 6) rfl) (by rw [HCS.out]; kernel_rfl) (by rw [HCS.out]; kernel_rfl) ?_ ?_
            · intro wx hx ρ hρ hs hf
              have hρc := hρ.const
              have hρf := hρ.func
              obtain ⟨fx6, -⟩ := hf
              rw [qs6] at fx6
              clear hs
              clear HCS HVS qs2 qs5 qs6 qs7 qs8
              refine SB.run_plain ?_
              unfold SB.runs
              go_simp
              exact SB.detK.mk
            -- 7: slot 37 := Op.indexAddr 28 t36 t35
            refine SB.sure_det (js := [(6, 36), (5, 35)]) (ts := []) (gd := none) (bs := []) (SB.place_at HVS.out (k := 7) rfl) (by rw [HCS.out]; kernel_rfl) (by rw [HCS.out]; kernel_rfl) ?_ ?_
            · intro wx hx ρ hρ hs hf
              have hρc := hρ.const
              have hρf := hρ.func
              obtain ⟨sn6, sn5, -⟩ := hs
              rw [SB.place_at HVS.out (k := 6) rfl] at sn6
              replace sn6 : ρ (.tmp 36) = _ := sn6
              rw [SB.place_at HVS.out (k := 5) rfl] at sn5
              replace sn5 : ρ (.tmp 35) = _ := sn5
              clear hf
              clear HCS HVS qs2 qs5 qs6 qs7 qs8
              refine SB.run_plain ?_
              unfold SB.runs
              go_simp
              exact SB.detK.mk
            -- 8: slot 38 := Op.load 27 t37
            refine SB.sure_det (js := [(7, 37)]) (ts := []) (gd := none) (bs := []) (SB.place_at HVS.out (k := 8) rfl) (by rw [HCS.out]; kernel_rfl) (by rw [HCS.out]; kernel_rfl) ?_ ?_
            · intro wx hx ρ hρ hs hf
              have hρc := hρ.const
              have hρf := hρ.func
              obtain ⟨sn7, -⟩ := hs
              rw [SB.place_at HVS.out (k := 7) rfl] at sn7
              replace sn7 : ρ (.tmp 37) = _ := sn7
              clear hf
              clear HCS HVS qs2 qs5 qs6 qs7 qs8
              refine SB.run_plain ?_
              have q := (hX _ hx).1
              unfold SB.runs
              go_simp
              exact SB.detK.mk
            -- 9: slot 39 := Op.move t7
            refine SB.sure_det (js := []) (ts := [7]) (gd := none) (bs := []) (SB.place_at HVS.out (k := 9) rfl) (by rw [HCS.out]; kernel_rfl) (by rw [HCS.out]; kernel_rfl) ?_ ?_
            · intro wx hx ρ hρ hs hf
              have hρc := hρ.const
              have hρf := hρ.func
              obtain ⟨fx7, -⟩ := hf
              rw [qs7] at fx7
              clear hs
              clear HCS HVS qs2 qs5 qs6 qs7 qs8
              refine SB.run_plain ?_
              refine SB.op_move rfl fx7 ?_
              exact SB.detK.mk
            -- 10: slot 40 := Op.move t5
            refine SB.sure_det (js := []) (ts := [5]) (gd := none) (bs := []) (SB.place_at HVS.out (k := 10) rfl) (by rw [HCS.out]; kernel_rfl) (by rw [HCS.out]; kernel_rfl) ?_ ?_
            · intro wx hx ρ hρ hs hf
              have hρc := hρ.const
              have hρf := hρ.func
              obtain ⟨fx5, -⟩ := hf
              rw [qs5] at fx5
              clear hs
              clear HCS HVS qs2 qs5 qs6 qs7 qs8
              refine SB.run_plain ?_
              refine SB.op_move rfl fx5 ?_
              exact SB.detK.mk
            -- 11: slot 41 := Op.binOp BinOp.quo 3 t39 t40 3
            refine SB.sure_det (js := [(9, 39), (10, 40)]) (ts := []) (gd := none) (bs := []) (SB.place_at HVS.out (k := 11) rfl) (by rw [HCS.out]; kernel_rfl) (by rw [HCS.out]; kernel_rfl) ?_ ?_
            · intro wx hx ρ hρ hs hf
              have hρc := hρ.const
              have hρf := hρ.func
              obtain ⟨sn9, sn10, -⟩ := hs
              rw [SB.place_at HVS.out (k := 9) rfl] at sn9
              replace sn9 : ρ (.tmp 39) = _ := sn9
              rw [SB.place_at HVS.out (k := 10) rfl] at sn10
              replace sn10 : ρ (.tmp 40) = _ := sn10
              clear hf
              clear HCS HVS qs2 qs5 qs6 qs7 qs8
              refine SB.run_plain ?_
              unfold SB.runs
              go_simp
              exact SB.detK.mk
            -- 12: slot 42 := Op.fieldAddr 30 t2 1
            refine SB.sure_det (js := []) (ts := [2]) (gd := none) (bs := []) (SB.place_at HVS.out (k := 12) rfl) (by rw [HCS.out]; kernel_rfl) (by rw [HCS.out]; kernel_rfl) ?_ ?_
            · intro wx hx ρ hρ hs hf
              have hρc := hρ.const
              have hρf := hρ.func
              obtain ⟨fx2, -⟩ := hf
              rw [qs2] at fx2
              clear hs
              clear HCS HVS qs2 qs5 qs6 qs7 qs8
              refine SB.run_plain ?_
              unfold SB.runs
              go_simp
              exact SB.detK.mk
            -- 13: slot 43 := Op.indexAddr 28 t42 t41
            refine SB.sure_det (js := [(12, 42), (11, 41)]) (ts := []) (gd := none) (bs := []) (SB.place_at HVS.out (k := 13) rfl) (by rw [HCS.out]; kernel_rfl) (by rw [HCS.out]; kernel_rfl) ?_ ?_
            · intro wx hx ρ hρ hs hf
              have hρc := hρ.const
              have hρf := hρ.func
              obtain ⟨sn12, sn11, -⟩ := hs
              rw [SB.place_at HVS.out (k := 12) rfl] at sn12
              replace sn12 : ρ (.tmp 42) = _ := sn12
              rw [SB.place_at HVS.out (k := 11) rfl] at sn11
              replace sn11 : ρ (.tmp 41) = _ := sn11
              clear hf
              clear HCS HVS qs2 qs5 qs6 qs7 qs8
              refine SB.run_plain ?_
              unfold SB.runs
              go_simp
              exact SB.detK.mk
            -- 14: slot 44 := Op.load 27 t43
            refine SB.sure_det (js := [(13, 43)]) (ts := []) (gd := none) (bs := []) (SB.place_at HVS.out (k := 14) rfl) (by rw [HCS.out]; kernel_rfl) (by rw [HCS.out]; kernel_rfl) ?_ ?_
            · intro wx hx ρ hρ hs hf
              have hρc := hρ.const
              have hρf := hρ.func
              obtain ⟨sn13, -⟩ := hs
              rw [SB.place_at HVS.out (k := 13) rfl] at sn13
              replace sn13 : ρ (.tmp 43) = _ := sn13
              clear hf
              clear HCS HVS qs2 qs5 qs6 qs7 qs8
              refine SB.run_plain ?_
              have q := (hX _ hx).2.1
              unfold SB.runs
              go_simp
              exact SB.detK.mk
            -- 15: slot 45 := Op.move t7
            refine SB.sure_det (js := []) (ts := [7]) (gd := none) (bs := []) (SB.place_at HVS.out (k := 15) rfl) (by rw [HCS.out]; kernel_rfl) (by rw [HCS.out]; kernel_rfl) ?_ ?_
            · intro wx hx ρ hρ hs hf
              have hρc := hρ.const
              have hρf := hρ.func
              obtain ⟨fx7, -⟩ := hf
              rw [qs7] at fx7
              clear hs
              clear HCS HVS qs2 qs5 qs6 qs7 qs8
              refine SB.run_plain ?_
              refine SB.op_move rfl fx7 ?_
              exact SB.detK.mk
            -- 16: slot 46 := Op.move t5
            refine SB.sure_det (js := []) (ts := [5]) (gd := none) (bs := []) (SB.place_at HVS.out (k := 16) rfl) (by rw [HCS.out]; kernel_rfl) (by rw [HCS.out]; kernel_rfl) ?_ ?_
            · intro wx hx ρ hρ hs hf
              have hρc := hρ.const
              have hρf := hρ.func
              obtain ⟨fx5, -⟩ := hf
              rw [qs5] at fx5
              clear hs
              clear HCS HVS qs2 qs5 qs6 qs7 qs8
              refine SB.run_plain ?_
              refine SB.op_move rfl fx5 ?_
              exact SB.detK.mk
            -- 17: slot 47 := Op.binOp BinOp.rem 3 t45 t46 3
            refine SB.sure_det (js := [(15, 45), (16, 46)]) (ts := []) (gd := none) (bs := []) (SB.place_at HVS.out (k := 17) rfl) (by rw [HCS.out]; kernel_rfl) (by rw [HCS.out]; kernel_rfl) ?_ ?_
            · intro wx hx ρ hρ hs hf
              have hρc := hρ.const
              have hρf := hρ.func
              obtain ⟨sn15, sn16, -⟩ := hs
              rw [SB.place_at HVS.out (k := 15) rfl] at sn15
              replace sn15 : ρ (.tmp 45) = _ := sn15
              rw [SB.place_at HVS.out (k := 16) rfl] at sn16
              replace sn16 : ρ (.tmp 46) = _ := sn16
              clear hf
              clear HCS HVS qs2 qs5 qs6 qs7 qs8
              refine SB.run_plain ?_
              unfold SB.runs
              go_simp
              exact SB.detK.mk
            -- 18: slot 48 := Op.indexAddr 27 t44 t47
            refine SB.sure_det (js := [(14, 44), (17, 47)]) (ts := []) (gd := none) (bs := []) (SB.place_at HVS.out (k := 18) rfl) (by rw [HCS.out]; kernel_rfl) (by rw [HCS.out]; kernel_rfl) ?_ ?_
            · intro wx hx ρ hρ hs hf
              have hρc := hρ.const
              have hρf := hρ.func
              obtain ⟨sn14, sn17, -⟩ := hs
              rw [SB.place_at HVS.out (k := 14) rfl] at sn14
              replace sn14 : ρ (.tmp 44) = _ := sn14
              rw [SB.place_at HVS.out (k := 17) rfl] at sn17
              replace sn17 : ρ (.tmp 47) = _ := sn17
              clear hf
              clear HCS HVS qs2 qs5 qs6 qs7 qs8
              refine SB.run_plain ?_
              unfold SB.runs
              go_simp
              exact SB.detK.mk
            -- 19: slot 49 := Op.load 90 t48
            refine SB.sure_det (js := [(18, 48)]) (ts := []) (gd := none) (bs := []) (SB.place_at HVS.out (k := 19) rfl) (by rw [HCS.out]; kernel_rfl) (by rw [HCS.out]; kernel_rfl) ?_ ?_
            · intro wx hx ρ hρ hs hf
              have hρc := hρ.const
              have hρf := hρ.func
              obtain ⟨sn18, -⟩ := hs
              rw [SB.place_at HVS.out (k := 18) rfl] at sn18
              replace sn18 : ρ (.tmp 48) = _ := sn18
              clear hf
              clear HCS HVS qs2 qs5 qs6 qs7 qs8
              refine SB.run_plain ?_
              obtain ⟨-, -, q0, q1, -⟩ := hX _ hx
              unfold SB.runs
              go_simp
              exact SB.detK.mk
            -- 20: slot 50 := Op.move t8
            refine SB.sure_det (js := []) (ts := [8]) (gd := none) (bs := []) (SB.place_at HVS.out (k := 20) rfl) (by rw [HCS.out]; kernel_rfl) (by rw [HCS.out]; kernel_rfl) ?_ ?_
            · intro wx hx ρ hρ hs hf
              have hρc := hρ.const
              have hρf := hρ.func
              obtain ⟨fx8, -⟩ := hf
              rw [qs8] at fx8
              clear hs
              clear HCS HVS qs2 qs5 qs6 qs7 qs8
              refine SB.run_plain ?_
              refine SB.op_move rfl fx8 ?_
              exact SB.detK.mk
            -- 21: slot 51 := Op.call { call ( 49), args := #[t49, t50], argTypes := #[90, 3] }
            refine SB.sure_op (js := [(19, 49), (20, 50)]) (ts := []) (gd := none) (bs := []) (SB.place_at HVS.out (k := 21) rfl) (by rw [HCS.out]; kernel_rfl) (by rw [HCS.out]; kernel_rfl) ?_ ?_
            · intro wx hx ρ hρ hs hf
              have hρc := hρ.const
              have hρf := hρ.func
              obtain ⟨sn19, sn20, -⟩ := hs
              rw [SB.place_at HVS.out (k := 19) rfl] at sn19
              replace sn19 : ρ (.tmp 49) = _ := sn19
              rw [SB.place_at HVS.out (k := 20) rfl] at sn20
              replace sn20 : ρ (.tmp 50) = _ := sn20
              clear hf
              clear HCS HVS qs2 qs5 qs6 qs7 qs8
              refine SB.run_plain ?_
              refine SB.op_call rfl hρ Try.call49 (map_two sn19 sn20) ?_
              refine Calls.mono (cutS_any s z _ (hX _ hx).2.2.2.2.1 hkr) ?_
              rintro e w' ⟨v, rfl, hx5, hc⟩
              exact .inl ⟨_, rfl, hx5, hc⟩
            -- 22: slot 52 := Op.buildSlice 27 1 #[(0, t51]
            refine SB.sure_op (js := [(21, 51)]) (ts := []) (gd := none) (bs := []) (SB.place_at HVS.out (k := 22) rfl) (by rw [HCS.out]; kernel_rfl) (by rw [HCS.out]; kernel_rfl) ?_ ?_
            · intro wx hx ρ hρ hs hf
              have hρc := hρ.const
              have hρf := hρ.func
              obtain ⟨sn21, -⟩ := hs
              rw [SB.place_at HVS.out (k := 21) rfl] at sn21
              replace sn21 : CutS s z wx (ρ (.tmp 51)) := sn21
              clear hf
              clear HCS HVS qs2 qs5 qs6 qs7 qs8
              refine SB.run_plain ?_
              obtain ⟨v', w', hr', hx5, ho⟩ := one_made s z wx _ sn21
              refine SB.op_buildSlice rfl (by simpa using hr') ?_
              exact ⟨hx5, ho⟩
            -- 23: slot 53 := Op.call { append, args := #[t38, t52], argTypes := #[27, 27] }
            refine SB.sure_wild (js := [(8, 38), (22, 52)]) (ts := []) (gd := none) (bs := []) (cs := [gB]) (SB.place_at HVS.out (k := 23) rfl) (by rw [HCS.out]; kernel_rfl) (by rw [HCS.out]; kernel_rfl) rfl ?_ ?_
            · intro wx hx ρ hρ hs hf
              have hρc := hρ.const
              have hρf := hρ.func
              obtain ⟨sn8, sn22, -⟩ := hs
              rw [SB.place_at HVS.out (k := 8) rfl] at sn8
              replace sn8 : ρ (.tmp 38) = _ := sn8
              rw [SB.place_at HVS.out (k := 22) rfl] at sn22
              replace sn22 : OneS s z wx (ρ (.tmp 52)) := sn22
              clear hf
              clear HCS HVS qs2 qs5 qs6 qs7 qs8
              refine SB.run_plain ?_
              have hxx := (hX _ hx).2.2.2.2.2
              obtain ⟨v', w', hr', hx5, ho⟩ := row_more (ownsRow_ext hown0 hxx) (fun x hm => (hlm x hm).ext hxx) sn22 (by omega) (Nat.le_trans hbb hxx.size) gB hgB2
              refine SB.op_append rfl sn8 rfl hr' ?_
              exact ⟨hx5, ho⟩
            -- 24: slot 54 := Op.fieldAddr 30 t6 1
            refine SB.sure_det (js := []) (ts := [6]) (gd := none) (bs := [gB]) (SB.place_at HVS.out (k := 24) rfl) (by rw [HCS.out]; kernel_rfl) (by rw [HCS.out]; kernel_rfl) ?_ ?_
            · intro wx hx ρ hρ hs hf
              have hρc := hρ.const
              have hρf := hρ.func
              obtain ⟨fx6, -⟩ := hf
              rw [qs6] at fx6
              clear hs
              clear HCS HVS qs2 qs5 qs6 qs7 qs8
              refine SB.run_plain ?_
              unfold SB.runs
              go_simp
              exact SB.detK.mk
            exact trivial
          case hend =>
            intro xs wx hx hg hq
            have gk0 : xs 0 = _ := SB.goods_get hg (i := 0) (j := 0) (d := 30) rfl
            have gk1 : xs 1 = _ := SB.goods_get hg (i := 1) (j := 1) (d := 31) rfl
            have gk2 : xs 2 = _ := SB.goods_get hg (i := 2) (j := 2) (d := 32) rfl
            have gk3 : xs 3 = _ := SB.goods_get hg (i := 3) (j := 3) (d := 33) rfl
            have gk4 : xs 4 = _ := SB.goods_get hg (i := 4) (j := 4) (d := 34) rfl
            have gk5 : xs 5 = _ := SB.goods_get hg (i := 5) (j := 5) (d := 35) rfl
            have gk6 : xs 6 = _ := SB.goods_get hg (i := 6) (j := 6) (d := 36) rfl
            have gk7 : xs 7 = _ := SB.goods_get hg (i := 7) (j := 7) (d := 37) rfl
            have gk8 : xs 8 = _ := SB.goods_get hg (i := 8) (j := 8) (d := 38) rfl
            have gk9 : xs 9 = _ := SB.goods_get hg (i := 9) (j := 9) (d := 39) rfl
            have gk10 : xs 10 = _ := SB.goods_get hg (i := 10) (j := 10) (d := 40) rfl
            have gk11 : xs 11 = _ := SB.goods_get hg (i := 11) (j := 11) (d := 41) rfl
            have gk12 : xs 12 = _ := SB.goods_get hg (i := 12) (j := 12) (d := 42) rfl
            have gk13 : xs 13 = _ := SB.goods_get hg (i := 13) (j := 13) (d := 43) rfl
            have gk14 : xs 14 = _ := SB.goods_get hg (i := 14) (j := 14) (d := 44) rfl
            have gk15 : xs 15 = _ := SB.goods_get hg (i := 15) (j := 15) (d := 45) rfl
            have gk16 : xs 16 = _ := SB.goods_get hg (i := 16) (j := 16) (d := 46) rfl
            have gk17 : xs 17 = _ := SB.goods_get hg (i := 17) (j := 17) (d := 47) rfl
            have gk18 : xs 18 = _ := SB.goods_get hg (i := 18) (j := 18) (d := 48) rfl
            have gk19 : xs 19 = _ := SB.goods_get hg (i := 19) (j := 19) (d := 49) rfl
            have gk20 : xs 20 = _ := SB.goods_get hg (i := 20) (j := 20) (d := 50) rfl
            have gk23 : RowS (W.heap.size + 1) j L0 [] s z wx (xs 23) := SB.goods_get hg (i := 21) (j := 23) (d := 53) rfl
            have gk24 : xs 24 = _ := SB.goods_get hg (i := 22) (j := 24) (d := 54) rfl
            clear hg hq
            simp only [putAll, gk0, gk1, gk2, gk3, gk4, gk5, gk6, gk7, gk8, gk9, gk10, gk11, gk12, gk13, gk14, gk15, gk16, gk17, gk18, gk19, gk20, gk24]
            clear gk0 gk1 gk2 gk3 gk4 gk5 gk6 gk7 gk8 gk9 gk10 gk11 gk12 gk13 gk14 gk15 gk16 gk17 gk18 gk19 gk20 gk24
            generalize xs 21 = vx21
            generalize xs 22 = vx22
            generalize xs 23 = vx23 at gk23 ⊢
            clear xs
            simp only [Act.put, List.setIfInBounds_toArray, List.set_cons_zero, List.set_cons_succ, List.drop_succ_cons, List.drop_zero]
            obtain ⟨s', A', c', rfl, ho, hoks, hkey⟩ := gk23
            have hxs : SB.ExtS [gB] wr.drew wx := hx
            have hGx : wx.heap[W.heap.size]? = _ := hxs.heap HG.out (by simp; omega)
            clear hx hX
            have f1 : wx.frozen? ⟨W.heap.size, 1, none⟩ = false := by simp [World.frozen?, hGx]
            have q1 : wx.cell? ⟨W.heap.size, 1, none⟩ = some (.slice B0 j b0) := by simp [World.cell?, hGx]
            go_wp2
            have hwxE : Ext W wx := extS_base hxm hxs (by omega)
            have hnew : Ext W (wx.setCell ⟨W.heap.size, 1, none⟩ (.slice A' (j + 1) c')) := hwxE.setCell (Nat.le_refl _) _
            have hbx : wr.heap.size ≤ wx.heap.size := hxs.size
            have hG' : (wx.setCell ⟨W.heap.size, 1, none⟩ (.slice A' (j + 1) c')).heap[W.heap.size]? = some (.cells #[.int .u64 R, .slice A' (j + 1) c', .slice none 0 0] 30 (0, 0)) := heap_setCell_at hGx
            have hoA : (wx.setCell ⟨W.heap.size, 1, none⟩ (.slice A' (j + 1) c')).ownsRow (W.heap.size + 1) 90 2 (.slice A' (j + 1) c') (j + 1) (rowCells (L0 ++ [s'])) := own_kept ho fun g hg => Below.heap_setCell _ _ _ _ (by have := (World.ownsRow.lt ho g hg).1; simp; omega)
            have hoks' : ∀ x ∈ L0 ++ [s'] ++ [], OKT (wx.setCell ⟨W.heap.size, 1, none⟩ (.slice A' (j + 1) c')) x := fun x hm => (hoks x hm).box hGx
            have hkn : (L0 ++ [s']).map St.key = (cutK ms (l0.map St.key)).take (j + 1) := by
              rw [cutK_next (show (l0.map St.key)[j]? = some s.key by rw [List.getElem?_map, hs]; rfl), List.map_append, hk0, hgz, ← hkey]; rfl
            go_roundw
            case rel =>
              refine ⟨j + 1, A', none, c', 0, L0 ++ [s'], [], (wx.setCell ⟨W.heap.size, 1, none⟩ (.slice A' (j + 1) c')).heap.size, by omega, by go_num, by rw [hmi2, hsb2]; exact hG', hnew, by rw [hmi2]; exact hoA, by rw [hsb2]; exact World.ownsRow_nil _ _ _ _, hoks', hkn, by rw [hsb2]; rfl, by simp [World.setCell]; omega, Nat.le_refl _, ?_⟩
              rcases Nat.lt_or_ge (j + 1) n with h | h
              · exact .inl ⟨h, rfl, rfl, rfl⟩
              · exact .inr ⟨h, fun a ha => (World.ownsRow.lt hoA a.block (by rw [ha]; rfl)).2⟩
            case measure => simp [intOf]; omega
        · have hxm := hx
          have hjmI : ¬ (j : Int) < (nM : Int) := by omega
          obtain ⟨z, hzz, hgz⟩ : ∃ z : Int, z = 0 ∧ ms.getD j 0 = z := ⟨0, rfl, by simp [List.getD_eq_getElem?_getD, List.getElem?_eq_none (show ms.length ≤ j by omega)]⟩
          go_upto_region 9 with (fail)
          rw [← hzz]
          refine' SB.wp_region_sure (gx := [(23, gB)]) (Pn := fun _ _ => False) ⟨((some 30, [], none) :: (some 31, [], none) :: (some 32, [0, 1], none) :: (some 33, [], none) :: (some 34, [], none) :: (some 35, [3, 4], none) :: (some 36, [], none) :: (some 37, [6, 5], none) :: (some 38, [7], none) :: (some 39, [], none) :: (some 40, [], none) :: (some 41, [9, 10], none) :: (some 42, [], none) :: (some 43, [12, 11], none) :: (some 44, [13], none) :: (some 45, [], none) :: (some 46, [], none) :: (some 47, [15, 16], none) :: (some 48, [14, 17], none) :: (some 49, [18], none) :: (some 50, [], none) :: (some 51, [19, 20], none) :: (some 52, [21], none) :: (some 53, [8, 22, 21], none) :: (some 54, [], none) :: (some 55, [24, 2, 0, 1, 2, 3, 4, 5, 6, 7, 8, 9, 10, 11, 12, 13, 14, 15, 16, 17, 18, 19, 20, 21, 22, 23], none) :: (none, [25, 23, 23, 0, 1, 2, 3, 4, 5, 6, 7, 8, 9, 10, 11, 12, 13, 14, 15, 16, 17, 18, 19, 20, 21, 22, 23], none) :: []), (0 :: 0 :: 3 :: 0 :: 0 :: 24 :: 0 :: 120 :: 248 :: 0 :: 0 :: 1536 :: 0 :: 7680 :: 15872 :: 0 :: 0 :: 98304 :: 261632 :: 523776 :: 0 :: 2096640 :: 4193792 :: 8388600 :: 0 :: 33554431 :: 67108863 :: []), (none :: none :: none :: none :: none :: none :: none :: none :: none :: none :: none :: none :: none :: none :: none :: none :: none :: none :: none :: none :: none :: some [] :: some [] :: some [] :: none :: []), [23]⟩ 25 57 ((0, 30) :: (1, 31) :: (2, 32) :: (3, 33) :: (4, 34) :: (5, 35) :: (6, 36) :: (7, 37) :: (8, 38) :: (9, 39) :: (10, 40) :: (11, 41) :: (12, 42) :: (13, 43) :: (14, 44) :: (15, 45) :: (16, 46) :: (17, 47) :: (18, 48) :: (19, 49) :: (20, 50) :: (21, 51) :: (22, 52) :: (23, 53) :: (24, 54) :: []) ((0, 30) :: (1, 31) :: (2, 32) :: (3, 33) :: (4, 34) :: (5, 35) :: (6, 36) :: (7, 37) :: (8, 38) :: (9, 39) :: (10, 40) :: (11, 41) :: (12, 42) :: (13, 43) :: (14, 44) :: (15, 45) :: (16, 46) :: (17, 47) :: (18, 48) :: (19, 49) :: (20, 50) :: (23, 53) :: (24, 54) :: []) (.det _ :: .det _ :: .det _ :: .det _ :: .det _ :: .det _ :: .det _ :: .det _ :: .det _ :: .det _ :: .det _ :: .det _ :: .det _ :: .det _ :: .det _ :: .det _ :: .det _ :: .det _ :: .det _ :: .det _ :: .det _ :: SB.Good.of (fun v w => CutS s z w v) (fun v w w' h hx => CutS.ext h hx) :: SB.Good.of (fun v w => OneS s z w v) (fun v w w' h hx => OneS.ext h hx) :: SB.Good.of (fun v w => RowS (W.heap.size + 1) j L0 [] s z w v) (fun v w w' h hx => RowS.ext h hx) :: .det _ :: []) (by kernel_rfl) ?hpan (by kernel_rfl) (by kernel_rfl) rfl (by kernel_rfl) (by kernel_rfl) rfl ?hone ?hend
          case hpan =>
            intro _ _ _ _ h; exact h.elim
          case hone =>
            intro CS frS VS hCS ha hV
            have qs2 := slot_val (t := 2) ha rfl
            simp only [List.getElem_toArray, List.getElem_cons_succ, List.getElem_cons_zero] at qs2
            have qs5 := slot_val (t := 5) ha rfl
            simp only [List.getElem_toArray, List.getElem_cons_succ, List.getElem_cons_zero] at qs5
            have qs6 := slot_val (t := 6) ha rfl
            simp only [List.getElem_toArray, List.getElem_cons_succ, List.getElem_cons_zero] at qs6
            have qs7 := slot_val (t := 7) ha rfl
            simp only [List.getElem_toArray, List.getElem_cons_succ, List.getElem_cons_zero] at qs7
            have qs8 := slot_val (t := 8) ha rfl
            simp only [List.getElem_toArray, List.getElem_cons_succ, List.getElem_cons_zero] at qs8
            have HCS := Lib.hid hCS
            have HVS := Lib.hid hV
            clear ha hCS hV
            -- 0: slot 30 := Op.move t7
            refine SB.sure_det (js := []) (ts := [7]) (gd := none) (bs := [gB]) (SB.place_at HVS.out (k := 0) rfl) (by rw [HCS.out]; kernel_rfl) (by rw [HCS.out]; kernel_rfl) ?_ ?_
            · intro wx hx ρ hρ hs hf
              have hρc := hρ.const
              have hρf := hρ.func
              obtain ⟨fx7, -⟩ := hf
              rw [qs7] at fx7
              clear hs
              clear HCS HVS qs2 qs5 qs6 qs7 qs8
              refine SB.run_plain ?_
              refine SB.op_move rfl fx7 ?_
              exact SB.detK.mk
            -- 1: slot 31 := Op.move t5
            refine SB.sure_det (js := []) (ts := [5]) (gd := none) (bs := [gB]) (SB.place_at HVS.out (k := 1) rfl) (by rw [HCS.out]; kernel_rfl) (by rw [HCS.out]; kernel_rfl) ?_ ?_
            · intro wx hx ρ hρ hs hf
              have hρc := hρ.const
              have hρf := hρ.func
              obtain ⟨fx5, -⟩ := hf
              rw [qs5] at fx5
              clear hs
              clear HCS HVS qs2 qs5 qs6 qs7 qs8
              refine SB.run_plain ?_
              refine SB.op_move rfl fx5 ?_
              exact SB.detK.mk
            -- 2: slot 32 := Op.binOp BinOp.quo 3 t30 t31 3
            refine SB.sure_det (js := [(0, 30), (1, 31)]) (ts := []) (gd := none) (bs := [gB]) (SB.place_at HVS.out (k := 2) rfl) (by rw [HCS.out]; kernel_rfl) (by rw [HCS.out]; kernel_rfl) ?_ ?_
            · intro wx hx ρ hρ hs hf
              have hρc := hρ.const
              have hρf := hρ.func
              obtain ⟨sn0, sn1, -⟩ := hs
              rw [SB.place_at HVS.out (k := 0) rfl] at sn0
              replace sn0 : ρ (.tmp 30) = _ := sn0
              rw [SB.place_at HVS.out (k := 1) rfl] at sn1
              replace sn1 : ρ (.tmp 31) = _ := sn1
              clear hf
              clear HCS HVS qs2 qs5 qs6 qs7 qs8
              refine SB.run_plain ?_
              unfold SB.runs
              go_simp
              exact SB.detK.mk
            -- 3: slot 33 := Op.move t7
            refine SB.sure_det (js := []) (ts := [7]) (gd := none) (bs := []) (SB.place_at HVS.out (k := 3) rfl) (by rw [HCS.out]; kernel_rfl) (by rw [HCS.out]; kernel_rfl) ?_ ?_
            · intro wx hx ρ hρ hs hf
              have hρc := hρ.const
              have hρf := hρ.func
              obtain ⟨fx7, -⟩ := hf
              rw [qs7] at fx7
              clear hs
              clear HCS HVS qs2 qs5 qs6 qs7 qs8
              refine SB.run_plain ?_
              refine SB.op_move rfl fx7 ?_
              exact SB.detK.mk
            -- 4: slot 34 := Op.move t5
            refine SB.sure_det (js := []) (ts := [5]) (gd := none) (bs := []) (SB.place_at HVS.out (k := 4) rfl) (by rw [HCS.out]; kernel_rfl) (by rw [HCS.out]; kernel_rfl) ?_ ?_
            · intro wx hx ρ hρ hs hf
              have hρc := hρ.const
              have hρf := hρ.func
              obtain ⟨fx5, -⟩ := hf
              rw [qs5] at fx5
              clear hs
              clear HCS HVS qs2 qs5 qs6 qs7 qs8
              refine SB.run_plain ?_
              refine SB.op_move rfl fx5 ?_
              exact SB.detK.mk
            -- 5: slot 35 := Op.binOp BinOp.quo 3 t33 t34 3
            refine SB.sure_det (js := [(3, 33), (4, 34)]) (ts := []) (gd := none) (bs := []) (SB.place_at HVS.out (k := 5) rfl) (by rw [HCS.out]; kernel_rfl) (by rw [HCS.out]; kernel_rfl) ?_ ?_
            · intro wx hx ρ hρ hs hf
              have hρc := hρ.const
              have hρf := hρ.func
              obtain ⟨sn3, sn4, -⟩ := hs
              rw [SB.place_at HVS.out (k := 3) rfl] at sn3
              replace sn3 : ρ (.tmp 33) = _ := sn3
              rw [SB.place_at HVS.out (k := 4) rfl] at sn4
              replace sn4 : ρ (.tmp 34) = _ := sn4
              clear hf
              clear HCS HVS qs2 qs5 qs6 qs7 qs8
              refine SB.run_plain ?_
              unfold SB.runs
              go_simp
              exact SB.detK.mk
            -- 6: slot 36 := Op.fieldAddr 30 t6 1
            refine SB.sure_det (js := []) (ts := [6]) (gd := none) (bs := []) (SB.place_at HVS.out (k := 6) rfl) (by rw [HCS.out]; kernel_rfl) (by rw [HCS.out]; kernel_rfl) ?_ ?_
            · intro wx hx ρ hρ hs hf
              have hρc := hρ.const
              have hρf := hρ.func
              obtain ⟨fx6, -⟩ := hf
              rw [qs6] at fx6
              clear hs
              clear HCS HVS qs2 qs5 qs6 qs7 qs8
              refine SB.run_plain ?_
              unfold SB.runs
              go_simp
              exact SB.detK.mk
            -- 7: slot 37 := Op.indexAddr 28 t36 t35
            refine SB.sure_det (js := [(6, 36), (5, 35)]) (ts := []) (gd := none) (bs := []) (SB.place_at HVS.out (k := 7) rfl) (by rw [HCS.out]; kernel_rfl) (by rw [HCS.out]; kernel_rfl) ?_ ?_
            · intro wx hx ρ hρ hs hf
              have hρc := hρ.const
              have hρf := hρ.func
              obtain ⟨sn6, sn5, -⟩ := hs
              rw [SB.place_at HVS.out (k := 6) rfl] at sn6
              replace sn6 : ρ (.tmp 36) = _ := sn6
              rw [SB.place_at HVS.out (k := 5) rfl] at sn5
              replace sn5 : ρ (.tmp 35) = _ := sn5
              clear hf
              clear HCS HVS qs2 qs5 qs6 qs7 qs8
              refine SB.run_plain ?_
              unfold SB.runs
              go_simp
              exact SB.detK.mk
            -- 8: slot 38 := Op.load 27 t37
            refine SB.sure_det (js := [(7, 37)]) (ts := []) (gd := none) (bs := []) (SB.place_at HVS.out (k := 8) rfl) (by rw [HCS.out]; kernel_rfl) (by rw [HCS.out]; kernel_rfl) ?_ ?_
            · intro wx hx ρ hρ hs hf
              have hρc := hρ.const
              have hρf := hρ.func
              obtain ⟨sn7, -⟩ := hs
              rw [SB.place_at HVS.out (k := 7) rfl] at sn7
              replace sn7 : ρ (.tmp 37) = _ := sn7
              clear hf
              clear HCS HVS qs2 qs5 qs6 qs7 qs8
              refine SB.run_plain ?_
              have q := (hX _ hx).1
              unfold SB.runs
              go_simp
              exact SB.detK.mk
            -- 9: slot 39 := Op.move t7
            refine SB.sure_det (js := []) (ts := [7]) (gd := none) (bs := []) (SB.place_at HVS.out (k := 9) rfl) (by rw [HCS.out]; kernel_rfl) (by rw [HCS.out]; kernel_rfl) ?_ ?_
            · intro wx hx ρ hρ hs hf
              have hρc := hρ.const
              have hρf := hρ.func
              obtain ⟨fx7, -⟩ := hf
              rw [qs7] at fx7
              clear hs
              clear HCS HVS qs2 qs5 qs6 qs7 qs8
              refine SB.run_plain ?_
              refine SB.op_move rfl fx7 ?_
              exact SB.detK.mk
            -- 10: slot 40 := Op.move t5
            refine SB.sure_det (js := []) (ts := [5]) (gd := none) (bs := []) (SB.place_at HVS.out (k := 10) rfl) (by rw [HCS.out]; kernel_rfl) (by rw [HCS.out]; kernel_rfl) ?_ ?_
            · intro wx hx ρ hρ hs hf
              have hρc := hρ.const
              have hρf := hρ.func
              obtain ⟨fx5, -⟩ := hf
              rw [qs5] at fx5
              clear hs
              clear HCS HVS qs2 qs5 qs6 qs7 qs8
              refine SB.run_plain ?_
              refine SB.op_move rfl fx5 ?_
              exact SB.detK.mk
            -- 11: slot 41 := Op.binOp BinOp.quo 3 t39 t40 3
            refine SB.sure_det (js := [(9, 39), (10, 40)]) (ts := []) (gd := none) (bs := []) (SB.place_at HVS.out (k := 11) rfl) (by rw [HCS.out]; kernel_rfl) (by rw [HCS.out]; kernel_rfl) ?_ ?_
            · intro wx hx ρ hρ hs hf
              have hρc := hρ.const
              have hρf := hρ.func
              obtain ⟨sn9, sn10, -⟩ := hs
              rw [SB.place_at HVS.out (k := 9) rfl] at sn9
              replace sn9 : ρ (.tmp 39) = _ := sn9
              rw [SB.place_at HVS.out (k := 10) rfl] at sn10
              replace sn10 : ρ (.tmp 40) = _ := sn10
              clear hf
              clear HCS HVS qs2 qs5 qs6 qs7 qs8
              refine SB.run_plain ?_
              unfold SB.runs
              go_simp
              exact SB.detK.mk
            -- 12: slot 42 := Op.fieldAddr 30 t2 1
            refine SB.sure_det (js := []) (ts := [2]) (gd := none) (bs := []) (SB.place_at HVS.out (k := 12) rfl) (by rw [HCS.out]; kernel_rfl) (by rw [HCS.out]; kernel_rfl) ?_ ?_
            · intro wx hx ρ hρ hs hf
              have hρc := hρ.const
              have hρf := hρ.func
              obtain ⟨fx2, -⟩ := hf
              rw [qs2] at fx2
              clear hs
              clear HCS HVS qs2 qs5 qs6 qs7 qs8
              refine SB.run_plain ?_
              unfold SB.runs
              go_simp
              exact SB.detK.mk
            -- 13: slot 43 := Op.indexAddr 28 t42 t41
            refine SB.sure_det (js := [(12, 42), (11, 41)]) (ts := []) (gd := none) (bs := []) (SB.place_at HVS.out (k := 13) rfl) (by rw [HCS.out]; kernel_rfl) (by rw [HCS.out]; kernel_rfl) ?_ ?_
            · intro wx hx ρ hρ hs hf
              have hρc := hρ.const
              have hρf := hρ.func
              obtain ⟨sn12, sn11, -⟩ := hs
              rw [SB.place_at HVS.out (k := 12) rfl] at sn12
              replace sn12 : ρ (.tmp 42) = _ := sn12
              rw [SB.place_at HVS.out (k := 11) rfl] at sn11
              replace sn11 : ρ (.tmp 41) = _ := sn11
              clear hf
              clear HCS HVS qs2 qs5 qs6 qs7 qs8
              refine SB.run_plain ?_
              unfold SB.runs
              go_simp
              exact SB.detK.mk
            -- 14: slot 44 := Op.load 27 t43
            refine SB.sure_det (js := [(13, 43)]) (ts := []) (gd := none) (bs := []) (SB.place_at HVS.out (k := 14) rfl) (by rw [HCS.out]; kernel_rfl) (by rw [HCS.out]; kernel_rfl) ?_ ?_
            · intro wx hx ρ hρ hs hf
              have hρc := hρ.const
              have hρf := hρ.func
              obtain ⟨sn13, -⟩ := hs
              rw [SB.place_at HVS.out (k := 13) rfl] at sn13
              replace sn13 : ρ (.tmp 43) = _ := sn13
              clear hf
              clear HCS HVS qs2 qs5 qs6 qs7 qs8
              refine SB.run_plain ?_
              have q := (hX _ hx).2.1
              unfold SB.runs
              go_simp
              exact SB.detK.mk
            -- 15: slot 45 := Op.move t7
            refine SB.sure_det (js := []) (ts := [7]) (gd := none) (bs := []) (SB.place_at HVS.out (k := 15) rfl) (by rw [HCS.out]; kernel_rfl) (by rw [HCS.out]; kernel_rfl) ?_ ?_
            · intro wx hx ρ hρ hs hf
              have hρc := hρ.const
              have hρf := hρ.func
              obtain ⟨fx7, -⟩ := hf
              rw [qs7] at fx7
              clear hs
              clear HCS HVS qs2 qs5 qs6 qs7 qs8
              refine SB.run_plain ?_
              refine SB.op_move rfl fx7 ?_
              exact SB.detK.mk
            -- 16: slot 46 := Op.move t5
            refine SB.sure_det (js := []) (ts := [5]) (gd := none) (bs := []) (SB.place_at HVS.out (k := 16) rfl) (by rw [HCS.out]; kernel_rfl) (by rw [HCS.out]; kernel_rfl) ?_ ?_
            · intro wx hx ρ hρ hs hf
              have hρc := hρ.const
              have hρf := hρ.func
              obtain ⟨fx5, -⟩ := hf
              rw [qs5] at fx5
              clear hs
              clear HCS HVS qs2 qs5 qs6 qs7 qs8
              refine SB.run_plain ?_
              refine SB.op_move rfl fx5 ?_
              exact SB.detK.mk
            -- 17: slot 47 := Op.binOp BinOp.rem 3 t45 t46 3
            refine SB.sure_det (js := [(15, 45), (16, 46)]) (ts := []) (gd := none) (bs := []) (SB.place_at HVS.out (k := 17) rfl) (by rw [HCS.out]; kernel_rfl) (by rw [HCS.out]; kernel_rfl) ?_ ?_
            · intro wx hx ρ hρ hs hf
              have hρc := hρ.const
              have hρf := hρ.func
              obtain ⟨sn15, sn16, -⟩ := hs
              rw [SB.place_at HVS.out (k := 15) rfl] at sn15
              replace sn15 : ρ (.tmp 45) = _ := sn15
              rw [SB.place_at HVS.out (k := 16) rfl] at sn16
              replace sn16 : ρ (.tmp 46) = _ := sn16
              clear hf
              clear HCS HVS qs2 qs5 qs6 qs7 qs8
              refine SB.run_plain ?_
              unfold SB.runs
              go_simp
              exact SB.detK.mk
            -- 18: slot 48 := Op.indexAddr 27 t44 t47
            refine SB.sure_det (js := [(14, 44), (17, 47)]) (ts := []) (gd := none) (bs := []) (SB.place_at HVS.out (k := 18) rfl) (by rw [HCS.out]; kernel_rfl) (by rw [HCS.out]; kernel_rfl) ?_ ?_
            · intro wx hx ρ hρ hs hf
              have hρc := hρ.const
              have hρf := hρ.func
              obtain ⟨sn14, sn17, -⟩ := hs
              rw [SB.place_at HVS.out (k := 14) rfl] at sn14
              replace sn14 : ρ (.tmp 44) = _ := sn14
              rw [SB.place_at HVS.out (k := 17) rfl] at sn17
              replace sn17 : ρ (.tmp 47) = _ := sn17
              clear hf
              clear HCS HVS qs2 qs5 qs6 qs7 qs8
              refine SB.run_plain ?_
              unfold SB.runs
              go_simp
              exact SB.detK.mk
            -- 19: slot 49 := Op.load 90 t48
            refine SB.sure_det (js := [(18, 48)]) (ts := []) (gd := none) (bs := []) (SB.place_at HVS.out (k := 19) rfl) (by rw [HCS.out]; kernel_rfl) (by rw [HCS.out]; kernel_rfl) ?_ ?_
            · intro wx hx ρ hρ hs hf
              have hρc := hρ.const
              have hρf := hρ.func
              obtain ⟨sn18, -⟩ := hs
              rw [SB.place_at HVS.out (k := 18) rfl] at sn18
              replace sn18 : ρ (.tmp 48) = _ := sn18
              clear hf
              clear HCS HVS qs2 qs5 qs6 qs7 qs8
              refine SB.run_plain ?_
              obtain ⟨-, -, q0, q1, -⟩ := hX _ hx
              unfold SB.runs
              go_simp
              exact SB.detK.mk
            -- 20: slot 50 := Op.move t8
            refine SB.sure_det (js := []) (ts := [8]) (gd := none) (bs := []) (SB.place_at HVS.out (k := 20) rfl) (by rw [HCS.out]; kernel_rfl) (by rw [HCS.out]; kernel_rfl) ?_ ?_
            · intro wx hx ρ hρ hs hf
              have hρc := hρ.const
              have hρf := hρ.func
              obtain ⟨fx8, -⟩ := hf
              rw [qs8] at fx8
              clear hs
              clear HCS HVS qs2 qs5 qs6 qs7 qs8
              refine SB.run_plain ?_
              refine SB.op_move rfl fx8 ?_
              exact SB.detK.mk
            -- 21: slot 51 := Op.call { call ( 49), args := #[t49, t50], argTypes := #[90, 3] }
            refine SB.sure_op (js := [(19, 49), (20, 50)]) (ts := []) (gd := none) (bs := []) (SB.place_at HVS.out (k := 21) rfl) (by rw [HCS.out]; kernel_rfl) (by rw [HCS.out]; kernel_rfl) ?_ ?_
            · intro wx hx ρ hρ hs hf
              have hρc := hρ.const
              have hρf := hρ.func
              obtain ⟨sn19, sn20, -⟩ := hs
              rw [SB.place_at HVS.out (k := 19) rfl] at sn19
              replace sn19 : ρ (.tmp 49) = _ := sn19
              rw [SB.place_at HVS.out (k := 20) rfl] at sn20
              replace sn20 : ρ (.tmp 50) = _ := sn20
              clear hf
              clear HCS HVS qs2 qs5 qs6 qs7 qs8
              refine SB.run_plain ?_
              refine SB.op_call rfl hρ Try.call49 (map_two sn19 sn20) ?_
              refine Calls.mono (cutS_any s z _ (hX _ hx).2.2.2.2.1 hkr) ?_
              rintro e w' ⟨v, rfl, hx5, hc⟩
              exact .inl ⟨_, rfl, hx5, hc⟩
            -- 22: slot 52 := Op.buildSlice 27 1 #[(0, t51]
            refine SB.sure_op (js := [(21, 51)]) (ts := []) (gd := none) (bs := []) (SB.place_at HVS.out (k := 22) rfl) (by rw [HCS.out]; kernel_rfl) (by rw [HCS.out]; kernel_rfl) ?_ ?_
            · intro wx hx ρ hρ hs hf
              have hρc := hρ.const
              have hρf := hρ.func
              obtain ⟨sn21, -⟩ := hs
              rw [SB.place_at HVS.out (k := 21) rfl] at sn21
              replace sn21 : CutS s z wx (ρ (.tmp 51)) := sn21
              clear hf
              clear HCS HVS qs2 qs5 qs6 qs7 qs8
              refine SB.run_plain ?_
              obtain ⟨v', w', hr', hx5, ho⟩ := one_made s z wx _ sn21
              refine SB.op_buildSlice rfl (by simpa using hr') ?_
              exact ⟨hx5, ho⟩
            -- 23: slot 53 := Op.call { append, args := #[t38, t52], argTypes := #[27, 27] }
            refine SB.sure_wild (js := [(8, 38), (22, 52)]) (ts := []) (gd := none) (bs := []) (cs := [gB]) (SB.place_at HVS.out (k := 23) rfl) (by rw [HCS.out]; kernel_rfl) (by rw [HCS.out]; kernel_rfl) rfl ?_ ?_
            · intro wx hx ρ hρ hs hf
              have hρc := hρ.const
              have hρf := hρ.func
              obtain ⟨sn8, sn22, -⟩ := hs
              rw [SB.place_at HVS.out (k := 8) rfl] at sn8
              replace sn8 : ρ (.tmp 38) = _ := sn8
              rw [SB.place_at HVS.out (k := 22) rfl] at sn22
              replace sn22 : OneS s z wx (ρ (.tmp 52)) := sn22
              clear hf
              clear HCS HVS qs2 qs5 qs6 qs7 qs8
              refine SB.run_plain ?_
              have hxx := (hX _ hx).2.2.2.2.2
              obtain ⟨v', w', hr', hx5, ho⟩ := row_more (ownsRow_ext hown0 hxx) (fun x hm => (hlm x hm).ext hxx) sn22 (by omega) (Nat.le_trans hbb hxx.size) gB hgB2
              refine SB.op_append rfl sn8 rfl hr' ?_
              exact ⟨hx5, ho⟩
            -- 24: slot 54 := Op.fieldAddr 30 t6 1
            refine SB.sure_det (js := []) (ts := [6]) (gd := none) (bs := [gB]) (SB.place_at HVS.out (k := 24) rfl) (by rw [HCS.out]; kernel_rfl) (by rw [HCS.out]; kernel_rfl) ?_ ?_
            · intro wx hx ρ hρ hs hf
              have hρc := hρ.const
              have hρf := hρ.func
              obtain ⟨fx6, -⟩ := hf
              rw [qs6] at fx6
              clear hs
              clear HCS HVS qs2 qs5 qs6 qs7 qs8
              refine SB.run_plain ?_
              unfold SB.runs
              go_simp
              exact SB.detK.mk
            exact trivial
          case hend =>
            intro xs wx hx hg hq
            have gk0 : xs 0 = _ := SB.goods_get hg (i := 0) (j := 0) (d := 30) rfl
            have gk1 : xs 1 = _ := SB.goods_get hg (i := 1) (j := 1) (d := 31) rfl
            have gk2 : xs 2 = _ := SB.goods_get hg (i := 2) (j := 2) (d := 32) rfl
            have gk3 : xs 3 = _ := SB.goods_get hg (i := 3) (j := 3) (d := 33) rfl
            have gk4 : xs 4 = _ := SB.goods_get hg (i := 4) (j := 4) (d := 34) rfl
            have gk5 : xs 5 = _ := SB.goods_get hg (i := 5) (j := 5) (d := 35) rfl
            have gk6 : xs 6 = _ := SB.goods_get hg (i := 6) (j := 6) (d := 36) rfl
            have gk7 : xs 7 = _ := SB.goods_get hg (i := 7) (j := 7) (d := 37) rfl
            have gk8 : xs 8 = _ := SB.goods_get hg (i := 8) (j := 8) (d := 38) rfl
            have gk9 : xs 9 = _ := SB.goods_get hg (i := 9) (j := 9) (d := 39) rfl
            have gk10 : xs 10 = _ := SB.goods_get hg (i := 10) (j := 10) (d := 40) rfl
            have gk11 : xs 11 = _ := SB.goods_get hg (i := 11) (j := 11) (d := 41) rfl
            have gk12 : xs 12 = _ := SB.goods_get hg (i := 12) (j := 12) (d := 42) rfl
            have gk13 : xs 13 = _ := SB.goods_get hg (i := 13) (j := 13) (d := 43) rfl
            have gk14 : xs 14 = _ := SB.goods_get hg (i := 14) (j := 14) (d := 44) rfl
            have gk15 : xs 15 = _ := SB.goods_get hg (i := 15) (j := 15) (d := 45) rfl
            have gk16 : xs 16 = _ := SB.goods_get hg (i := 16) (j := 16) (d := 46) rfl
            have gk17 : xs 17 = _ := SB.goods_get hg (i := 17) (j := 17) (d := 47) rfl
            have gk18 : xs 18 = _ := SB.goods_get hg (i := 18) (j := 18) (d := 48) rfl
            have gk19 : xs 19 = _ := SB.goods_get hg (i := 19) (j := 19) (d := 49) rfl
            have gk20 : xs 20 = _ := SB.goods_get hg (i := 20) (j := 20) (d := 50) rfl
            have gk23 : RowS (W.heap.size + 1) j L0 [] s z wx (xs 23) := SB.goods_get hg (i := 21) (j := 23) (d := 53) rfl
            have gk24 : xs 24 = _ := SB.goods_get hg (i := 22) (j := 24) (d := 54) rfl
            clear hg hq
            simp only [putAll, gk0, gk1, gk2, gk3, gk4, gk5, gk6, gk7, gk8, gk9, gk10, gk11, gk12, gk13, gk14, gk15, gk16, gk17, gk18, gk19, gk20, gk24]
            clear gk0 gk1 gk2 gk3 gk4 gk5 gk6 gk7 gk8 gk9 gk10 gk11 gk12 gk13 gk14 gk15 gk16 gk17 gk18 gk19 gk20 gk24
            generalize xs 21 = vx21
            generalize xs 22 = vx22
            generalize xs 23 = vx23 at gk23 ⊢
            clear xs
            simp only [Act.put, List.setIfInBounds_toArray, List.set_cons_zero, List.set_cons_succ, List.drop_succ_cons, List.drop_zero]
            obtain ⟨s', A', c', rfl, ho, hoks, hkey⟩ := gk23
            have hxs : SB.ExtS [gB] wr.drew wx := hx
            have hGx : wx.heap[W.heap.size]? = _ := hxs.heap HG.out (by simp; omega)
            clear hx hX
            have f1 : wx.frozen? ⟨W.heap.size, 1, none⟩ = false := by simp [World.frozen?, hGx]
            have q1 : wx.cell? ⟨W.heap.size, 1, none⟩ = some (.slice B0 j b0) := by simp [World.cell?, hGx]
            go_wp2
            have hwxE : Ext W wx := extS_base hxm hxs (by omega)
            have hnew : Ext W (wx.setCell ⟨W.heap.size, 1, none⟩ (.slice A' (j + 1) c')) := hwxE.setCell (Nat.le_refl _) _
            have hbx : wr.heap.size ≤ wx.heap.size := hxs.size
            have hG' : (wx.setCell ⟨W.heap.size, 1, none⟩ (.slice A' (j + 1) c')).heap[W.heap.size]? = some (.cells #[.int .u64 R, .slice A' (j + 1) c', .slice none 0 0] 30 (0, 0)) := heap_setCell_at hGx
            have hoA : (wx.setCell ⟨W.heap.size, 1, none⟩ (.slice A' (j + 1) c')).ownsRow (W.heap.size + 1) 90 2 (.slice A' (j + 1) c') (j + 1) (rowCells (L0 ++ [s'])) := own_kept ho fun g hg => Below.heap_setCell _ _ _ _ (by have := (World.ownsRow.lt ho g hg).1; simp; omega)
            have hoks' : ∀ x ∈ L0 ++ [s'] ++ [], OKT (wx.setCell ⟨W.heap.size, 1, none⟩ (.slice A' (j + 1) c')) x := fun x hm => (hoks x hm).box hGx
            have hkn : (L0 ++ [s']).map St.key = (cutK ms (l0.map St.key)).take (j + 1) := by
              rw [cutK_next (show (l0.map St.key)[j]? = some s.key by rw [List.getElem?_map, hs]; rfl), List.map_append, hk0, hgz, ← hkey]; rfl
            go_roundw
            case rel =>
              refine ⟨j + 1, A', none, c', 0, L0 ++ [s'], [], (wx.setCell ⟨W.heap.size, 1, none⟩ (.slice A' (j + 1) c')).heap.size, by omega, by go_num, by rw [hmi2, hsb2]; exact hG', hnew, by rw [hmi2]; exact hoA, by rw [hsb2]; exact World.ownsRow_nil _ _ _ _, hoks', hkn, by rw [hsb2]; rfl, by simp [World.setCell]; omega, Nat.le_refl _, ?_⟩
              rcases Nat.lt_or_ge (j + 1) n with h | h
              · exact .inl ⟨h, rfl, rfl, rfl⟩
              · exact .inr ⟨h, fun a ha => (World.ownsRow.lt hoA a.block (by rw [ha]; rfl)).2⟩
            case measure => simp [intOf]; omega
      · obtain ⟨i, rfl⟩ : ∃ i, j = n + i := ⟨j - n, by omega⟩
        have hmin : min (n + i) n = n := by omega
        have hmi2 : min (n + i + 1) n = n := by omega
        have hsub : n + i - n = i := by omega
        have hsb2 : n + i + 1 - n = i + 1 := by omega
        simp only [hmin, hsub] at hG hown0 hown1 hk1
        have hin : i < n := by omega
        have hnat : ((n + i : Nat) : Int) = (n : Int) + (i : Int) := by omega
        have hq : Int.tdiv ((n + i : Nat) : Int) (n : Int) = 1 := by rw [Int.tdiv_eq_ediv_of_nonneg (by omega), hnat, Int.add_ediv_of_dvd_left ⟨1, by omega⟩, Int.ediv_self (by omega), Int.ediv_eq_zero_of_lt (by omega) (by omega)]; rfl
        have hr : Int.tmod ((n + i : Nat) : Int) (n : Int) = (i : Int) := by rw [Int.tmod_eq_emod_of_nonneg (by omega), hnat, Int.add_emod_left]; exact Int.emod_eq_of_lt (by omega) (by omega)
        have hwq : IntKind.i64.wrap (1 : Int) = 1 := by decide
        have hwr : IntKind.i64.wrap (i : Int) = (i : Int) := by rw [IntKind.wrap_i64]; omega
        generalize hjn' : n + i = j at *
        clear hnat
        obtain ⟨s, hs, hmem⟩ : ∃ s, l1[i]? = some s ∧ s ∈ l1 := ⟨l1[i]'(by omega), List.getElem?_eq_getElem _, List.getElem_mem _⟩
        have hbb : base1 ≤ wr.heap.size := hb2
        obtain ⟨gB, hgB1, hgB2⟩ := own_bound hown1
        have hgO : gB ≠ W.heap.size := by omega
        have hrowx := h1.ext (hW.trans hx)
        obtain ⟨a, hA, a0, a1, aok⟩ := hrowx.at hs
        subst hA
        have hkr := hr1 s.key (List.mem_map.2 ⟨s, hmem, rfl⟩)
        have HG := Lib.hid hG
        have hX : ∀ wx, SB.ExtS [] wr.drew wx → wx.cell? ⟨W.heap.size, 2, none⟩ = some (.slice B1 i b1) ∧ wx.cell? ⟨w.heap.size, 2, none⟩ = some (.slice (some a) n c1) ∧ wx.cell? (a.add (i * 2)) = some (.slice s.D s.q s.cd) ∧ wx.cell? ⟨(a.add (i * 2)).block, (a.add (i * 2)).off + 1, none⟩ = some (.int .i64 s.k) ∧ StOK wx s ∧ Ext wr wx := fun wx hh =>
          have hh' : Ext wr wx := hh.ext.drawn
          ⟨hh'.cell (by simp [World.cell?, HG.out]), (hx.trans hh').cell (by simp [World.cell?, HE.out]), hh'.cell a0, hh'.cell a1, StOK.ext aok hh', hh'⟩
        clear hG
        have hlm : ∀ x ∈ L1 ++ L0, OKT wr x := fun x hm => hok x (by simp only [List.mem_append] at hm ⊢; exact hm.symm)
        rcases Nat.lt_or_ge j nM with hjm | hjm
        · have hxm := hx
          have hjmI : (j : Int) < (nM : Int) := by omega
          obtain ⟨z, hz, hgz⟩ : ∃ z, ms[j]? = some z ∧ (ms.drop n).getD i 0 = z := ⟨ms[j]'(by omega), List.getElem?_eq_getElem _, by subst hjn'; simp [List.getD_eq_getElem?_getD, List.getElem?_drop, List.getElem?_eq_getElem (show n + i < ms.length by omega)]⟩
          obtain ⟨aM, hMA, hMc⟩ := hM.at_ j z hz
          subst hMA
          have hMc' := (hW.trans hx).cell hMc
          go_upto_region 9 with (fail)
          refine' SB.wp_region_sure (gx := [(23, gB)]) (Pn := fun _ _ => False) ⟨((some 30, [], none) :: (some 31, [], none) :: (some 32, [0, 1], none) :: (some 33, [], none) :: (some 34, [], none) :: (some 35, [3, 4], none) :: (some 36, [], none) :: (some 37, [6, 5], none) :: (some 38, [7], none) :: (some 39, [], none) :: (some 40, [], none) :: (some 41, [9, 10], none) :: (some 42, [], none) :: (some 43, [12, 11], none) :: (some 44, [13], none) :: (some 45, [], none) :: (some 46, [], none) :: (some 47, [15, 16], none) :: (some 48, [14, 17], none) :: (some 49, [18], none) :: (some 50, [], none) :: (some 51, [19, 20], none) :: (some 52, [21], none) :: (some 53, [8, 22, 21], none) :: (some 54, [], none) :: (some 55, [24, 2, 0, 1, 2, 3, 4, 5, 6, 7, 8, 9, 10, 11, 12, 13, 14, 15, 16, 17, 18, 19, 20, 21, 22, 23], none) :: (none, [25, 23, 23, 0, 1, 2, 3, 4, 5, 6, 7, 8, 9, 10, 11, 12, 13, 14, 15, 16, 17, 18, 19, 20, 21, 22, 23], none) :: []), (0 :: 0 :: 3 :: 0 :: 0 :: 24 :: 0 :: 120 :: 248 :: 0 :: 0 :: 1536 :: 0 :: 7680 :: 15872 :: 0 :: 0 :: 98304 :: 261632 :: 523776 :: 0 :: 2096640 :: 4193792 :: 8388600 :: 0 :: 33554431 :: 67108863 :: []), (none :: none :: none :: none :: none :: none :: none :: none :: none :: none :: none :: none :: none :: none :: none :: none :: none :: none :: none :: none :: none :: some [] :: some [] :: some [] :: none :: []), [23]⟩ 25 57 ((0, 30) :: (1, 31) :: (2, 32) :: (3, 33) :: (4, 34) :: (5, 35) :: (6, 36) :: (7, 37) :: (8, 38) :: (9, 39) :: (10, 40) :: (11, 41) :: (12, 42) :: (13, 43) :: (14, 44) :: (15, 45) :: (16, 46) :: (17, 47) :: (18, 48) :: (19, 49) :: (20, 50) :: (21, 51) :: (22, 52) :: (23, 53) :: (24, 54) :: []) ((0, 30) :: (1, 31) :: (2, 32) :: (3, 33) :: (4, 34) :: (5, 35) :: (6, 36) :: (7, 37) :: (8, 38) :: (9, 39) :: (10, 40) :: (11, 41) :: (12, 42) :: (13, 43) :: (14, 44) :: (15, 45) :: (16, 46) :: (17, 47) :: (18, 48) :: (19, 49) :: (20, 50) :: (23, 53) :: (24, 54) :: []) (.det _ :: .det _ :: .det _ :: .det _ :: .det _ :: .det _ :: .det _ :: .det _ :: .det _ :: .det _ :: .det _ :: .det _ :: .det _ :: .det _ :: .det _ :: .det _ :: .det _ :: .det _ :: .det _ :: .det _ :: .det _ :: SB.Good.of (fun v w => CutS s z w v) (fun v w w' h hx => CutS.ext h hx) :: SB.Good.of (fun v w => OneS s z w v) (fun v w w' h hx => OneS.ext h hx) :: SB.Good.of (fun v w => RowS base1 i L1 L0 s z w v) (fun v w w' h hx => RowS.ext h hx) :: .det _ :: []) (by kernel_rfl) ?hpan (by kernel_rfl) (by kernel_rfl) rfl (by kernel_rfl) (by kernel_rfl) rfl ?hone ?hend
          case hpan =>
            intro _ _ _ _ h; exact h.elim
          case hone =>
            intro CS frS VS hCS ha hV
            have qs2 := slot_val (t := 2) ha rfl
            simp only [List.getElem_toArray, List.getElem_cons_succ, List.getElem_cons_zero] at qs2
            have qs5 := slot_val (t := 5) ha rfl
            simp only [List.getElem_toArray, List.getElem_cons_succ, List.getElem_cons_zero] at qs5
            have qs6 := slot_val (t := 6) ha rfl
            simp only [List.getElem_toArray, List.getElem_cons_succ, List.getElem_cons_zero] at qs6
            have qs7 := slot_val (t := 7) ha rfl
            simp only [List.getElem_toArray, List.getElem_cons_succ, List.getElem_cons_zero] at qs7
            have qs8 := slot_val (t := 8) ha rfl
            simp only [List.getElem_toArray, List.getElem_cons_succ, List.getElem_cons_zero] at qs8
            have HCS := Lib.hid hCS
            have HVS := Lib.hid hV
            clear ha hCS hV
            -- 0: slot 30 := Op.move t7
            refine SB.sure_det (js := []) (ts := [7]) (gd := none) (bs := [gB]) (SB.place_at HVS.out (k := 0) rfl) (by rw [HCS.out]; kernel_rfl) (by rw [HCS.out]; kernel_rfl) ?_ ?_
            · intro wx hx ρ hρ hs hf
              have hρc := hρ.const
              have hρf := hρ.func
              obtain ⟨fx7, -⟩ := hf
              rw [qs7] at fx7
              clear hs
              clear HCS HVS qs2 qs5 qs6 qs7 qs8
              refine SB.run_plain ?_
              refine SB.op_move rfl fx7 ?_
              exact SB.detK.mk
            -- 1: slot 31 := Op.move t5
            refine SB.sure_det (js := []) (ts := [5]) (gd := none) (bs := [gB]) (SB.place_at HVS.out (k := 1) rfl) (by rw [HCS.out]; kernel_rfl) (by rw [HCS.out]; kernel_rfl) ?_ ?_
            · intro wx hx ρ hρ hs hf
              have hρc := hρ.const
              have hρf := hρ.func
              obtain ⟨fx5, -⟩ := hf
              rw [qs5] at fx5
              clear hs
              clear HCS HVS qs2 qs5 qs6 qs7 qs8
              refine SB.run_plain ?_
              refine SB.op_move rfl fx5 ?_
              exact SB.detK.mk
            -- 2: slot 32 := Op.binOp BinOp.quo 3 t30 t31 3
            refine SB.sure_det (js := [(0, 30), (1, 31)]) (ts := []) (gd := none) (bs := [gB]) (SB.place_at HVS.out (k := 2) rfl) (by rw [HCS.out]; kernel_rfl) (by rw [HCS.out]; kernel_rfl) ?_ ?_
            · intro wx hx ρ hρ hs hf
              have hρc := hρ.const
              have hρf := hρ.func
              obtain ⟨sn0, sn1, -⟩ := hs
              rw [SB.place_at HVS.out (k := 0) rfl] at sn0
              replace sn0 : ρ (.tmp 30) = _ := sn0
              rw [SB.place_at HVS.out (k := 1) rfl] at sn1
              replace sn1 : ρ (.tmp 31) = _ := sn1
              clear hf
              clear HCS HVS qs2 qs5 qs6 qs7 qs8
              refine SB.run_plain ?_
              unfold SB.runs
              go_simp
              exact SB.detK.mk
            -- 3: slot 33 := Op.move t7
            refine SB.sure_det (js := []) (ts := [7]) (gd := none) (bs := []) (SB.place_at HVS.out (k := 3) rfl) (by rw [HCS.out]; kernel_rfl) (by rw [HCS.out]; kernel_rfl) ?_ ?_
            · intro wx hx ρ hρ hs hf
              have hρc := hρ.const
              have hρf := hρ.func
              obtain ⟨fx7, -⟩ := hf
              rw [qs7] at fx7
              clear hs
              clear HCS HVS qs2 qs5 qs6 qs7 qs8
              refine SB.run_plain ?_
              refine SB.op_move rfl fx7 ?_
              exact SB.detK.mk
            -- 4: slot 34 := Op.move t5
            refine SB.sure_det (js := []) (ts := [5]) (gd := none) (bs := []) (SB.place_at HVS.out (k := 4) rfl) (by rw [HCS.out]; kernel_rfl) (by rw [HCS.out]; kernel_rfl) ?_ ?_
            · intro wx hx ρ hρ hs hf
              have hρc := hρ.const
              have hρf := hρ.func
              obtain ⟨fx5, -⟩ := hf
              rw [qs5] at fx5
              clear hs
              clear HCS HVS qs2 qs5 qs6 qs7 qs8
              refine SB.run_plain ?_
              refine SB.op_move rfl fx5 ?_
              exact SB.detK.mk
            -- 5: slot 35 := Op.binOp BinOp.quo 3 t33 t34 3
            refine SB.sure_det (js := [(3, 33), (4, 34)]) (ts := []) (gd := none) (bs := []) (SB.place_at HVS.out (k := 5) rfl) (by rw [HCS.out]; kernel_rfl) (by rw [HCS.out]; kernel_rfl) ?_ ?_
            · intro wx hx ρ hρ hs hf
              have hρc := hρ.const
              have hρf := hρ.func
              obtain ⟨sn3, sn4, -⟩ := hs
              rw [SB.place_at HVS.out (k := 3) rfl] at sn3
              replace sn3 : ρ (.tmp 33) = _ := sn3
              rw [SB.place_at HVS.out (k := 4) rfl] at sn4
              replace sn4 : ρ (.tmp 34) = _ := sn4
              clear hf
              clear HCS HVS qs2 qs5 qs6 qs7 qs8
              refine SB.run_plain ?_
              unfold SB.runs
              go_simp
              exact SB.detK.mk
            -- 6: slot 36 := Op.fieldAddr 30 t6 1
            refine SB.sure_det (js := []) (ts := [6]) (gd := none) (bs := []) (SB.place_at HVS.out (k := 6) rfl) (by rw [HCS.out]; kernel_rfl) (by rw [HCS.out]; kernel_rfl) ?_ ?_
            · intro wx hx ρ hρ hs hf
              have hρc := hρ.const
              have hρf := hρ.func
              obtain ⟨fx6, -⟩ := hf
              rw [qs6] at fx6
              clear hs
              clear HCS HVS qs2 qs5 qs6 qs7 qs8
              refine SB.run_plain ?_
              unfold SB.runs
              go_simp
              exact SB.detK.mk
            -- 7: slot 37 := Op.indexAddr 28 t36 t35
            refine SB.sure_det (js := [(6, 36), (5, 35)]) (ts := []) (gd := none) (bs := []) (SB.place_at HVS.out (k := 7) rfl) (by rw [HCS.out]; kernel_rfl) (by rw [HCS.out]; kernel_rfl) ?_ ?_
            · intro wx hx ρ hρ hs hf
              have hρc := hρ.const
              have hρf := hρ.func
              obtain ⟨sn6, sn5, -⟩ := hs
              rw [SB.place_at HVS.out (k := 6) rfl] at sn6
              replace sn6 : ρ (.tmp 36) = _ := sn6
              rw [SB.place_at HVS.out (k := 5) rfl] at sn5
              replace sn5 : ρ (.tmp 35) = _ := sn5
              clear hf
              clear HCS HVS qs2 qs5 qs6 qs7 qs8
              refine SB.run_plain ?_
              unfold SB.runs
              go_simp
              exact SB.detK.mk
            -- 8: slot 38 := Op.load 27 t37
            refine SB.sure_det (js := [(7, 37)]) (ts := []) (gd := none) (bs := []) (SB.place_at HVS.out (k := 8) rfl) (by rw [HCS.out]; kernel_rfl) (by rw [HCS.out]; kernel_rfl) ?_ ?_
            · intro wx hx ρ hρ hs hf
              have hρc := hρ.const
              have hρf := hρ.func
              obtain ⟨sn7, -⟩ := hs
              rw [SB.place_at HVS.out (k := 7) rfl] at sn7
              replace sn7 : ρ (.tmp 37) = _ := sn7
              clear hf
              clear HCS HVS qs2 qs5 qs6 qs7 qs8
              refine SB.run_plain ?_
              have q := (hX _ hx).1
              unfold SB.runs
              go_simp
              exact SB.detK.mk
            -- 9: slot 39 := Op.move t7
            refine SB.sure_det (js := []) (ts := [7]) (gd := none) (bs := []) (SB.place_at HVS.out (k := 9) rfl) (by rw [HCS.out]; kernel_rfl) (by rw [HCS.out]; kernel_rfl) ?_ ?_
            · intro wx hx ρ hρ hs hf
              have hρc := hρ.const
              have hρf := hρ.func
              obtain ⟨fx7, -⟩ := hf
              rw [qs7] at fx7
              clear hs
              clear HCS HVS qs2 qs5 qs6 qs7 qs8
              refine SB.run_plain ?_
              refine SB.op_move rfl fx7 ?_
              exact SB.detK.mk
            -- 10: slot 40 := Op.move t5
            refine SB.sure_det (js := []) (ts := [5]) (gd := none) (bs := []) (SB.place_at HVS.out (k := 10) rfl) (by rw [HCS.out]; kernel_rfl) (by rw [HCS.out]; kernel_rfl) ?_ ?_
            · intro wx hx ρ hρ hs hf
              have hρc := hρ.const
              have hρf := hρ.func
              obtain ⟨fx5, -⟩ := hf
              rw [qs5] at fx5
              clear hs
              clear HCS HVS qs2 qs5 qs6 qs7 qs8
              refine SB.run_plain ?_
              refine SB.op_move rfl fx5 ?_
              exact SB.detK.mk
            -- 11: slot 41 := Op.binOp BinOp.quo 3 t39 t40 3
            refine SB.sure_det (js := [(9, 39), (10, 40)]) (ts := []) (gd := none) (bs := []) (SB.place_at HVS.out (k := 11) rfl) (by rw [HCS.out]; kernel_rfl) (by rw [HCS.out]; kernel_rfl) ?_ ?_
            · intro wx hx ρ hρ hs hf
              have hρc := hρ.const
              have hρf := hρ.func
              obtain ⟨sn9, sn10, -⟩ := hs
              rw [SB.place_at HVS.out (k := 9) rfl] at sn9
              replace sn9 : ρ (.tmp 39) = _ := sn9
              rw [SB.place_at HVS.out (k := 10) rfl] at sn10
              replace sn10 : ρ (.tmp 40) = _ := sn10
              clear hf
              clear HCS HVS qs2 qs5 qs6 qs7 qs8
              refine SB.run_plain ?_
              unfold SB.runs
              go_simp
              exact SB.detK.mk
            -- 12: slot 42 := Op.fieldAddr 30 t2 1
            refine SB.sure_det (js := []) (ts := [2]) (gd := none) (bs := []) (SB.place_at HVS.out (k := 12) rfl) (by rw [HCS.out]; kernel_rfl) (by rw [HCS.out]; kernel_rfl) ?_ ?_
            · intro wx hx ρ hρ hs hf
              have hρc := hρ.const
              have hρf := hρ.func
              obtain ⟨fx2, -⟩ := hf
              rw [qs2] at fx2
              clear hs
              clear HCS HVS qs2 qs5 qs6 qs7 qs8
              refine SB.run_plain ?_
              unfold SB.runs
              go_simp
              exact SB.detK.mk
            -- 13: slot 43 := Op.indexAddr 28 t42 t41
            refine SB.sure_det (js := [(12, 42), (11, 41)]) (ts := []) (gd := none) (bs := []) (SB.place_at HVS.out (k := 13) rfl) (by rw [HCS.out]; kernel_rfl) (by rw [HCS.out]; kernel_rfl) ?_ ?_
            · intro wx hx ρ hρ hs hf
              have hρc := hρ.const
              have hρf := hρ.func
              obtain ⟨sn12, sn11, -⟩ := hs
              rw [SB.place_at HVS.out (k := 12) rfl] at sn12
              replace sn12 : ρ (.tmp 42) = _ := sn12
              rw [SB.place_at HVS.out (k := 11) rfl] at sn11
              replace sn11 : ρ (.tmp 41) = _ := sn11
              clear hf
              clear HCS HVS qs2 qs5 qs6 qs7 qs8
              refine SB.run_plain ?_
              unfold SB.runs
              go_simp
              exact SB.detK.mk
            -- 14: slot 44 := Op.load 27 t43
            refine SB.sure_det (js := [(13, 43)]) (ts := []) (gd := none) (bs := []) (SB.place_at HVS.out (k := 14) rfl) (by rw [HCS.out]; kernel_rfl) (by rw [HCS.out]; kernel_rfl) ?_ ?_
            · intro wx hx ρ hρ hs hf
              have hρc := hρ.const
              have hρf := hρ.func
              obtain ⟨sn13, -⟩ := hs
              rw [SB.place_at HVS.out (k := 13) rfl] at sn13
              replace sn13 : ρ (.tmp 43) = _ := sn13
              clear hf
              clear HCS HVS qs2 qs5 qs6 qs7 qs8
              refine SB.run_plain ?_
              have q := (hX _ hx).2.1
              unfold SB.runs
              go_simp
              exact SB.detK.mk
            -- 15: slot 45 := Op.move t7
            refine SB.sure_det (js := []) (ts := [7]) (gd := none) (bs := []) (SB.place_at HVS.out (k := 15) rfl) (by rw [HCS.out]; kernel_rfl) (by rw [HCS.out]; kernel_rfl) ?_ ?_
            · intro wx hx ρ hρ hs hf
              have hρc := hρ.const
              have hρf := hρ.func
              obtain ⟨fx7, -⟩ := hf
              rw [qs7] at fx7
              clear hs
              clear HCS HVS qs2 qs5 qs6 qs7 qs8
              refine SB.run_plain ?_
              refine SB.op_move rfl fx7 ?_
              exact SB.detK.mk
            -- 16: slot 46 := Op.move t5
            refine SB.sure_det (js := []) (ts := [5]) (gd := none) (bs := []) (SB.place_at HVS.out (k := 16) rfl) (by rw [HCS.out]; kernel_rfl) (by rw [HCS.out]; kernel_rfl) ?_ ?_
            · intro wx hx ρ hρ hs hf
              have hρc := hρ.const
              have hρf := hρ.func
              obtain ⟨fx5, -⟩ := hf
              rw [qs5] at fx5
              clear hs
              clear HCS HVS qs2 qs5 qs6 qs7 qs8
              refine SB.run_plain ?_
              refine SB.op_move rfl fx5 ?_
              exact SB.detK.mk
            -- 17: slot 47 := Op.binOp BinOp.rem 3 t45 t46 3
            refine SB.sure_det (js := [(15, 45), (16, 46)]) (ts := []) (gd := none) (bs := []) (SB.place_at HVS.out (k := 17) rfl) (by rw [HCS.out]; kernel_rfl) (by rw [HCS.out]; kernel_rfl) ?_ ?_
            · intro wx hx ρ hρ hs hf
              have hρc := hρ.const
              have hρf := hρ.func
              obtain ⟨sn15, sn16, -⟩ := hs
              rw [SB.place_at HVS.out (k := 15) rfl] at sn15
              replace sn15 : ρ (.tmp 45) = _ := sn15
              rw [SB.place_at HVS.out (k := 16) rfl] at sn16
              replace sn16 : ρ (.tmp 46) = _ := sn16
              clear hf
              clear HCS HVS qs2 qs5 qs6 qs7 qs8
              refine SB.run_plain ?_
              unfold SB.runs
              go_simp
              exact SB.detK.mk
            -- 18: slot 48 := Op.indexAddr 27 t44 t47
            refine SB.sure_det (js := [(14, 44), (17, 47)]) (ts := []) (gd := none) (bs := []) (SB.place_at HVS.out (k := 18) rfl) (by rw [HCS.out]; kernel_rfl) (by rw [HCS.out]; kernel_rfl) ?_ ?_
            · intro wx hx ρ hρ hs hf
              have hρc := hρ.const
              have hρf := hρ.func
              obtain ⟨sn14, sn17, -⟩ := hs
              rw [SB.place_at HVS.out (k := 14) rfl] at sn14
              replace sn14 : ρ (.tmp 44) = _ := sn14
              rw [SB.place_at HVS.out (k := 17) rfl] at sn17
              replace sn17 : ρ (.tmp 47) = _ := sn17
              clear hf
              clear HCS HVS qs2 qs5 qs6 qs7 qs8
              refine SB.run_plain ?_
              unfold SB.runs
              go_simp
              exact SB.detK.mk
            -- 19: slot 49 := Op.load 90 t48
            refine SB.sure_det (js := [(18, 48)]) (ts := []) (gd := none) (bs := []) (SB.place_at HVS.out (k := 19) rfl) (by rw [HCS.out]; kernel_rfl) (by rw [HCS.out]; kernel_rfl) ?_ ?_
            · intro wx hx ρ hρ hs hf
              have hρc := hρ.const
              have hρf := hρ.func
              obtain ⟨sn18, -⟩ := hs
              rw [SB.place_at HVS.out (k := 18) rfl] at sn18
              replace sn18 : ρ (.tmp 48) = _ := sn18
              clear hf
              clear HCS HVS qs2 qs5 qs6 qs7 qs8
              refine SB.run_plain ?_
              obtain ⟨-, -, q0, q1, -⟩ := hX _ hx
              unfold SB.runs
              go_simp
              exact SB.detK.mk
            -- 20: slot 50 := Op.move t8
            refine SB.sure_det (js := []) (ts := [8]) (gd := none) (bs := []) (SB.place_at HVS.out (k := 20) rfl) (by rw [HCS.out]; kernel_rfl) (by rw [HCS.out]; kernel_rfl) ?_ ?_
            · intro wx hx ρ hρ hs hf
              have hρc := hρ.const
              have hρf := hρ.func
              obtain ⟨fx8, -⟩ := hf
              rw [qs8] at fx8
              clear hs
              clear HCS HVS qs2 qs5 qs6 qs7 qs8
              refine SB.run_plain ?_
              refine SB.op_move rfl fx8 ?_
              exact SB.detK.mk
            -- 21: slot 51 := Op.call { call ( 49), args := #[t49, t50], argTypes := #[90, 3] }
            refine SB.sure_op (js := [(19, 49), (20, 50)]) (ts := []) (gd := none) (bs := []) (SB.place_at HVS.out (k := 21) rfl) (by rw [HCS.out]; kernel_rfl) (by rw [HCS.out]; kernel_rfl) ?_ ?_
            · intro wx hx ρ hρ hs hf
              have hρc := hρ.const
              have hρf := hρ.func
              obtain ⟨sn19, sn20, -⟩ := hs
              rw [SB.place_at HVS.out (k := 19) rfl] at sn19
              replace sn19 : ρ (.tmp 49) = _ := sn19
              rw [SB.place_at HVS.out (k := 20) rfl] at sn20
              replace sn20 : ρ (.tmp 50) = _ := sn20
              clear hf
              clear HCS HVS qs2 qs5 qs6 qs7 qs8
              refine SB.run_plain ?_
              refine SB.op_call rfl hρ Try.call49 (map_two sn19 sn20) ?_
              refine Calls.mono (cutS_any s z _ (hX _ hx).2.2.2.2.1 hkr) ?_
              rintro e w' ⟨v, rfl, hx5, hc⟩
              exact .inl ⟨_, rfl, hx5, hc⟩
            -- 22: slot 52 := Op.buildSlice 27 1 #[(0, t51]
            refine SB.sure_op (js := [(21, 51)]) (ts := []) (gd := none) (bs := []) (SB.place_at HVS.out (k := 22) rfl) (by rw [HCS.out]; kernel_rfl) (by rw [HCS.out]; kernel_rfl) ?_ ?_
            · intro wx hx ρ hρ hs hf
              have hρc := hρ.const
              have hρf := hρ.func
              obtain ⟨sn21, -⟩ := hs
              rw [SB.place_at HVS.out (k := 21) rfl] at sn21
              replace sn21 : CutS s z wx (ρ (.tmp 51)) := sn21
              clear hf
              clear HCS HVS qs2 qs5 qs6 qs7 qs8
              refine SB.run_plain ?_
              obtain ⟨v', w', hr', hx5, ho⟩ := one_made s z wx _ sn21
              refine SB.op_buildSlice rfl (by simpa using hr') ?_
              exact ⟨hx5, ho⟩
            -- 23: slot 53 := Op.call { append, args := #[t38, t52], argTypes := #[27, 27] }
            refine SB.sure_wild (js := [(8, 38), (22, 52)]) (ts := []) (gd := none) (bs := []) (cs := [gB]) (SB.place_at HVS.out (k := 23) rfl) (by rw [HCS.out]; kernel_rfl) (by rw [HCS.out]; kernel_rfl) rfl ?_ ?_
            · intro wx hx ρ hρ hs hf
              have hρc := hρ.const
              have hρf := hρ.func
              obtain ⟨sn8, sn22, -⟩ := hs
              rw [SB.place_at HVS.out (k := 8) rfl] at sn8
              replace sn8 : ρ (.tmp 38) = _ := sn8
              rw [SB.place_at HVS.out (k := 22) rfl] at sn22
              replace sn22 : OneS s z wx (ρ (.tmp 52)) := sn22
              clear hf
              clear HCS HVS qs2 qs5 qs6 qs7 qs8
              refine SB.run_plain ?_
              have hxx := (hX _ hx).2.2.2.2.2
              obtain ⟨v', w', hr', hx5, ho⟩ := row_more (ownsRow_ext hown1 hxx) (fun x hm => (hlm x hm).ext hxx) sn22 (by omega) (Nat.le_trans hbb hxx.size) gB hgB2
              refine SB.op_append rfl sn8 rfl hr' ?_
              exact ⟨hx5, ho⟩
            -- 24: slot 54 := Op.fieldAddr 30 t6 1
            refine SB.sure_det (js := []) (ts := [6]) (gd := none) (bs := [gB]) (SB.place_at HVS.out (k := 24) rfl) (by rw [HCS.out]; kernel_rfl) (by rw [HCS.out]; kernel_rfl) ?_ ?_
            · intro wx hx ρ hρ hs hf
              have hρc := hρ.const
              have hρf := hρ.func
              obtain ⟨fx6, -⟩ := hf
              rw [qs6] at fx6
              clear hs
              clear HCS HVS qs2 qs5 qs6 qs7 qs8
              refine SB.run_plain ?_
              unfold SB.runs
              go_simp
              exact SB.detK.mk
            exact trivial
          case hend =>
            intro xs wx hx hg hq
            have gk0 : xs 0 = _ := SB.goods_get hg (i := 0) (j := 0) (d := 30) rfl
            have gk1 : xs 1 = _ := SB.goods_get hg (i := 1) (j := 1) (d := 31) rfl
            have gk2 : xs 2 = _ := SB.goods_get hg (i := 2) (j := 2) (d := 32) rfl
            have gk3 : xs 3 = _ := SB.goods_get hg (i := 3) (j := 3) (d := 33) rfl
            have gk4 : xs 4 = _ := SB.goods_get hg (i := 4) (j := 4) (d := 34) rfl
            have gk5 : xs 5 = _ := SB.goods_get hg (i := 5) (j := 5) (d := 35) rfl
            have gk6 : xs 6 = _ := SB.goods_get hg (i := 6) (j := 6) (d := 36) rfl
            have gk7 : xs 7 = _ := SB.goods_get hg (i := 7) (j := 7) (d := 37) rfl
            have gk8 : xs 8 = _ := SB.goods_get hg (i := 8) (j := 8) (d := 38) rfl
            have gk9 : xs 9 = _ := SB.goods_get hg (i := 9) (j := 9) (d := 39) rfl
            have gk10 : xs 10 = _ := SB.goods_get hg (i := 10) (j := 10) (d := 40) rfl
            have gk11 : xs 11 = _ := SB.goods_get hg (i := 11) (j := 11) (d := 41) rfl
            have gk12 : xs 12 = _ := SB.goods_get hg (i := 12) (j := 12) (d := 42) rfl
            have gk13 : xs 13 = _ := SB.goods_get hg (i := 13) (j := 13) (d := 43) rfl
            have gk14 : xs 14 = _ := SB.goods_get hg (i := 14) (j := 14) (d := 44) rfl
            have gk15 : xs 15 = _ := SB.goods_get hg (i := 15) (j := 15) (d := 45) rfl
            have gk16 : xs 16 = _ := SB.goods_get hg (i := 16) (j := 16) (d := 46) rfl
            have gk17 : xs 17 = _ := SB.goods_get hg (i := 17) (j := 17) (d := 47) rfl
            have gk18 : xs 18 = _ := SB.goods_get hg (i := 18) (j := 18) (d := 48) rfl
            have gk19 : xs 19 = _ := SB.goods_get hg (i := 19) (j := 19) (d := 49) rfl
            have gk20 : xs 20 = _ := SB.goods_get hg (i := 20) (j := 20) (d := 50) rfl
            have gk23 : RowS base1 i L1 L0 s z wx (xs 23) := SB.goods_get hg (i := 21) (j := 23) (d := 53) rfl
            have gk24 : xs 24 = _ := SB.goods_get hg (i := 22) (j := 24) (d := 54) rfl
            clear hg hq
            simp only [putAll, gk0, gk1, gk2, gk3, gk4, gk5, gk6, gk7, gk8, gk9, gk10, gk11, gk12, gk13, gk14, gk15, gk16, gk17, gk18, gk19, gk20, gk24]
            clear gk0 gk1 gk2 gk3 gk4 gk5 gk6 gk7 gk8 gk9 gk10 gk11 gk12 gk13 gk14 gk15 gk16 gk17 gk18 gk19 gk20 gk24
            generalize xs 21 = vx21
            generalize xs 22 = vx22
            generalize xs 23 = vx23 at gk23 ⊢
            clear xs
            simp only [Act.put, List.setIfInBounds_toArray, List.set_cons_zero, List.set_cons_succ, List.drop_succ_cons, List.drop_zero]
            obtain ⟨s', A', c', rfl, ho, hoks, hkey⟩ := gk23
            have hxs : SB.ExtS [gB] wr.drew wx := hx
            have hGx : wx.heap[W.heap.size]? = _ := hxs.heap HG.out (by simp; omega)
            clear hx hX
            have f1 : wx.frozen? ⟨W.heap.size, 2, none⟩ = false := by simp [World.frozen?, hGx]
            have q1 : wx.cell? ⟨W.heap.size, 2, none⟩ = some (.slice B1 i b1) := by simp [World.cell?, hGx]
            go_wp2
            have hwxE : Ext W wx := extS_base hxm hxs (by omega)
            have hnew : Ext W (wx.setCell ⟨W.heap.size, 2, none⟩ (.slice A' (i + 1) c')) := hwxE.setCell (Nat.le_refl _) _
            have hbx : wr.heap.size ≤ wx.heap.size := hxs.size
            have hG' : (wx.setCell ⟨W.heap.size, 2, none⟩ (.slice A' (i + 1) c')).heap[W.heap.size]? = some (.cells #[.int .u64 R, .slice B0 n b0, .slice A' (i + 1) c'] 30 (0, 0)) := heap_setCell_at hGx
            have hoA : (wx.setCell ⟨W.heap.size, 2, none⟩ (.slice A' (i + 1) c')).ownsRow base1 90 2 (.slice A' (i + 1) c') (i + 1) (rowCells (L1 ++ [s'])) := own_kept ho fun g hg => Below.heap_setCell _ _ _ _ (by have := (World.ownsRow.lt ho g hg).1; simp; omega)
            have hoks' : ∀ x ∈ L1 ++ [s'] ++ L0, OKT (wx.setCell ⟨W.heap.size, 2, none⟩ (.slice A' (i + 1) c')) x := fun x hm => (hoks x hm).box hGx
            have hkn : (L1 ++ [s']).map St.key = (cutK (ms.drop n) (l1.map St.key)).take (i + 1) := by
              rw [cutK_next (show (l1.map St.key)[i]? = some s.key by rw [List.getElem?_map, hs]; rfl), List.map_append, hk1, hgz, ← hkey]; rfl
            go_roundw
            case rel =>
              have hjj : n + (i + 1) = j + 1 := by omega
              refine ⟨j + 1, B0, A', b0, c', L0, L1 ++ [s'], base1, by omega, by go_num, by rw [hmi2, hsb2]; exact hG', hnew, by
                  rw [hmi2]
                  refine own_kept hown0 fun g hg => ?_
                  have h1' := World.ownsRow.lt hown0 g hg
                  have h2' : g < base1 := by
                    cases B0 with
                    | none => cases hg
                    | some a => exact (Option.some.inj hg) ▸ hfar a rfl
                  rw [Below.heap_setCell _ _ _ _ (by simp; omega)]
                  exact hxs.block g h1'.2 (by simp; omega), by rw [hsb2]; exact hoA, fun x hm => hoks' x (by simp only [List.mem_append] at hm ⊢; exact hm.symm), by
                  rw [hk0, List.take_of_length_le (by rw [cutK_length, hK0]; omega), List.take_of_length_le (by rw [cutK_length, hK0]; omega)], by rw [hsb2]; exact hkn, hb1, by simp [World.setCell]; omega, .inr ⟨by omega, hfar⟩⟩
            case measure => simp [intOf]; omega
        · have hxm := hx
          have hjmI : ¬ (j : Int) < (nM : Int) := by omega
          obtain ⟨z, hzz, hgz⟩ : ∃ z : Int, z = 0 ∧ (ms.drop n).getD i 0 = z := ⟨0, rfl, by subst hjn'; simp [List.getD_eq_getElem?_getD, List.getElem?_drop, List.getElem?_eq_none (show ms.length ≤ n + i by omega)]⟩
          go_upto_region 9 with (fail)
          rw [← hzz]
          refine' SB.wp_region_sure (gx := [(23, gB)]) (Pn := fun _ _ => False) ⟨((some 30, [], none) :: (some 31, [], none) :: (some 32, [0, 1], none) :: (some 33, [], none) :: (some 34, [], none) :: (some 35, [3, 4], none) :: (some 36, [], none) :: (some 37, [6, 5], none) :: (some 38, [7], none) :: (some 39, [], none) :: (some 40, [], none) :: (some 41, [9, 10], none) :: (some 42, [], none) :: (some 43, [12, 11], none) :: (some 44, [13], none) :: (some 45, [], none) :: (some 46, [], none) :: (some 47, [15, 16], none) :: (some 48, [14, 17], none) :: (some 49, [18], none) :: (some 50, [], none) :: (some 51, [19, 20], none) :: (some 52, [21], none) :: (some 53, [8, 22, 21], none) :: (some 54, [], none) :: (some 55, [24, 2, 0, 1, 2, 3, 4, 5, 6, 7, 8, 9, 10, 11, 12, 13, 14, 15, 16, 17, 18, 19, 20, 21, 22, 23], none) :: (none, [25, 23, 23, 0, 1, 2, 3, 4, 5, 6, 7, 8, 9, 10, 11, 12, 13, 14, 15, 16, 17, 18, 19, 20, 21, 22, 23], none) :: []), (0 :: 0 :: 3 :: 0 :: 0 :: 24 :: 0 :: 120 :: 248 :: 0 :: 0 :: 1536 :: 0 :: 7680 :: 15872 :: 0 :: 0 :: 98304 :: 261632 :: 523776 :: 0 :: 2096640 :: 4193792 :: 8388600 :: 0 :: 33554431 :: 67108863 :: []), (none :: none :: none :: none :: none :: none :: none :: none :: none :: none :: none :: none :: none :: none :: none :: none :: none :: none :: none :: none :: none :: some [] :: some [] :: some [] :: none :: []), [23]⟩ 25 57 ((0, 30) :: (1, 31) :: (2, 32) :: (3, 33) :: (4, 34) :: (5, 35) :: (6, 36) :: (7, 37) :: (8, 38) :: (9, 39) :: (10, 40) :: (11, 41) :: (12, 42) :: (13, 43) :: (14, 44) :: (15, 45) :: (16, 46) :: (17, 47) :: (18, 48) :: (19, 49) :: (20, 50) :: (21, 51) :: (22, 52) :: (23, 53) :: (24, 54) :: []) ((0, 30) :: (1, 31) :: (2, 32) :: (3, 33) :: (4, 34) :: (5, 35) :: (6, 36) :: (7, 37) :: (8, 38) :: (9, 39) :: (10, 40) :: (11, 41) :: (12, 42) :: (13, 43) :: (14, 44) :: (15, 45) :: (16, 46) :: (17, 47) :: (18, 48) :: (19, 49) :: (20, 50) :: (23, 53) :: (24, 54) :: []) (.det _ :: .det _ :: .det _ :: .det _ :: .det _ :: .det _ :: .det _ :: .det _ :: .det _ :: .det _ :: .det _ :: .det _ :: .det _ :: .det _ :: .det _ :: .det _ :: .det _ :: .det _ :: .det _ :: .det _ :: .det _ :: SB.Good.of (fun v w => CutS s z w v) (fun v w w' h hx => CutS.ext h hx) :: SB.Good.of (fun v w => OneS s z w v) (fun v w w' h hx => OneS.ext h hx) :: SB.Good.of (fun v w => RowS base1 i L1 L0 s z w v) (fun v w w' h hx => RowS.ext h hx) :: .det _ :: []) (by kernel_rfl) ?hpan (by kernel_rfl) (by kernel_rfl) rfl (by kernel_rfl) (by kernel_rfl) rfl ?hone ?hend
          case hpan =>
            intro _ _ _ _ h; exact h.elim
          case hone =>
            intro CS frS VS hCS ha hV
            have qs2 := slot_val (t := 2) ha rfl
            simp only [List.getElem_toArray, List.getElem_cons_succ, List.getElem_cons_zero] at qs2
            have qs5 := slot_val (t := 5) ha rfl
            simp only [List.getElem_toArray, List.getElem_cons_succ, List.getElem_cons_zero] at qs5
            have qs6 := slot_val (t := 6) ha rfl
            simp only [List.getElem_toArray, List.getElem_cons_succ, List.getElem_cons_zero] at qs6
            have qs7 := slot_val (t := 7) ha rfl
            simp only [List.getElem_toArray, List.getElem_cons_succ, List.getElem_cons_zero] at qs7
            have qs8 := slot_val (t := 8) ha rfl
            simp only [List.getElem_toArray, List.getElem_cons_succ, List.getElem_cons_zero] at qs8
            have HCS := Lib.hid hCS
            have HVS := Lib.hid hV
            clear ha hCS hV
            -- 0: slot 30 := Op.move t7
            refine SB.sure_det (js := []) (ts := [7]) (gd := none) (bs := [gB]) (SB.place_at HVS.out (k := 0) rfl) (by rw [HCS.out]; kernel_rfl) (by rw [HCS.out]; kernel_rfl) ?_ ?_
            · intro wx hx ρ hρ hs hf
              have hρc := hρ.const
              have hρf := hρ.func
              obtain ⟨fx7, -⟩ := hf
              rw [qs7] at fx7
              clear hs
              clear HCS HVS qs2 qs5 qs6 qs7 qs8
              refine SB.run_plain ?_
              refine SB.op_move rfl fx7 ?_
              exact SB.detK.mk
            -- 1: slot 31 := Op.move t5
            refine SB.sure_det (js := []) (ts := [5]) (gd := none) (bs := [gB]) (SB.place_at HVS.out (k := 1) rfl) (by rw [HCS.out]; kernel_rfl) (by rw [HCS.out]; kernel_rfl) ?_ ?_
            · intro wx hx ρ hρ hs hf
              have hρc := hρ.const
              have hρf := hρ.func
              obtain ⟨fx5, -⟩ := hf
              rw [qs5] at fx5
              clear hs
              clear HCS HVS qs2 qs5 qs6 qs7 qs8
              refine SB.run_plain ?_
              refine SB.op_move rfl fx5 ?_
              exact SB.detK.mk
            -- 2: slot 32 := Op.binOp BinOp.quo 3 t30 t31 3
            refine SB.sure_det (js := [(0, 30), (1, 31)]) (ts := []) (gd := none) (bs := [gB]) (SB.place_at HVS.out (k := 2) rfl) (by rw [HCS.out]; kernel_rfl) (by rw [HCS.out]; kernel_rfl) ?_ ?_
            · intro wx hx ρ hρ hs hf
              have hρc := hρ.const
              have hρf := hρ.func
              obtain ⟨sn0, sn1, -⟩ := hs
              rw [SB.place_at HVS.out (k := 0) rfl] at sn0
              replace sn0 : ρ (.tmp 30) = _ := sn0
              rw [SB.place_at HVS.out (k := 1) rfl] at sn1
              replace sn1 : ρ (.tmp 31) = _ := sn1
              clear hf
              clear HCS HVS qs2 qs5 qs6 qs7 qs8
              refine SB.run_plain ?_
              unfold SB.runs
              go_simp
              exact SB.detK.mk
            -- 3: slot 33 := Op.move t7
            refine SB.sure_det (js := []) (ts := [7]) (gd := none) (bs := []) (SB.place_at HVS.out (k := 3) rfl) (by rw [HCS.out]; kernel_rfl) (by rw [HCS.out]; kernel_rfl) ?_ ?_
            · intro wx hx ρ hρ hs hf
              have hρc := hρ.const
              have hρf := hρ.func
              obtain ⟨fx7, -⟩ := hf
              rw [qs7] at fx7
              clear hs
              clear HCS HVS qs2 qs5 qs6 qs7 qs8
              refine SB.run_plain ?_
              refine SB.op_move rfl fx7 ?_
              exact SB.detK.mk
            -- 4: slot 34 := Op.move t5
            refine SB.sure_det (js := []) (ts := [5]) (gd := none) (bs := []) (SB.place_at HVS.out (k := 4) rfl) (by rw [HCS.out]; kernel_rfl) (by rw [HCS.out]; kernel_rfl) ?_ ?_
            · intro wx hx ρ hρ hs hf
              have hρc := hρ.const
              have hρf := hρ.func
              obtain ⟨fx5, -⟩ := hf
              rw [qs5] at fx5
              clear hs
              clear HCS HVS qs2 qs5 qs6 qs7 qs8
              refine SB.run_plain ?_
              refine SB.op_move rfl fx5 ?_
              exact SB.detK.mk
            -- 5: slot 35 := Op.binOp BinOp.quo 3 t33 t34 3
            refine SB.sure_det (js := [(3, 33), (4, 34)]) (ts := []) (gd := none) (bs := []) (SB.place_at HVS.out (k := 5) rfl) (by rw [HCS.out]; kernel_rfl) (by rw [HCS.out]; kernel_rfl) ?_ ?_
            · intro wx hx ρ hρ hs hf
              have hρc := hρ.const
              have hρf := hρ.func
              obtain ⟨sn3, sn4, -⟩ := hs
              rw [SB.place_at HVS.out (k := 3) rfl] at sn3
              replace sn3 : ρ (.tmp 33) = _ := sn3
              rw [SB.place_at HVS.out (k := 4) rfl] at sn4
              replace sn4 : ρ (.tmp 34) = _ := sn4
              clear hf
              clear HCS HVS qs2 qs5 qs6 qs7 qs8
              refine SB.run_plain ?_
              unfold SB.runs
              go_simp
              exact SB.detK.mk
            -- 6: slot 36 := Op.fieldAddr 30 t6 1
            refine SB.sure_det (js := []) (ts := [6]) (gd := none) (bs := []) (SB.place_at HVS.out (k := 6) rfl) (by rw [HCS.out]; kernel_rfl) (by rw [HCS.out]; kernel_rfl) ?_ ?_
            · intro wx hx ρ hρ hs hf
              have hρc := hρ.const
              have hρf := hρ.func
              obtain ⟨fx6, -⟩ := hf
              rw [qs6] at fx6
              clear hs
              clear HCS HVS qs2 qs5 qs6 qs7 qs8
              refine SB.run_plain ?_
              unfold SB.runs
              go_simp
              exact SB.detK.mk
            -- 7: slot 37 := Op.indexAddr 28 t36 t35
            refine SB.sure_det (js := [(6, 36), (5, 35)]) (ts := []) (gd := none) (bs := []) (SB.place_at HVS.out (k := 7) rfl) (by rw [HCS.out]; kernel_rfl) (by rw [HCS.out]; kernel_rfl) ?_ ?_
            · intro wx hx ρ hρ hs hf
              have hρc := hρ.const
              have hρf := hρ.func
              obtain ⟨sn6, sn5, -⟩ := hs
              rw [SB.place_at HVS.out (k := 6) rfl] at sn6
              replace sn6 : ρ (.tmp 36) = _ := sn6
              rw [SB.place_at HVS.out (k := 5) rfl] at sn5
              replace sn5 : ρ (.tmp 35) = _ := sn5
              clear hf
              clear HCS HVS qs2 qs5 qs6 qs7 qs8
              refine SB.run_plain ?_
              unfold SB.runs
              go_simp
              exact SB.detK.mk
            -- 8: slot 38 := Op.load 27 t37
            refine SB.sure_det (js := [(7, 37)]) (ts := []) (gd := none) (bs := []) (SB.place_at HVS.out (k := 8) rfl) (by rw [HCS.out]; kernel_rfl) (by rw [HCS.out]; kernel_rfl) ?_ ?_
            · intro wx hx ρ hρ hs hf
              have hρc := hρ.const
              have hρf := hρ.func
              obtain ⟨sn7, -⟩ := hs
              rw [SB.place_at HVS.out (k := 7) rfl] at sn7
              replace sn7 : ρ (.tmp 37) = _ := sn7
              clear hf
              clear HCS HVS qs2 qs5 qs6 qs7 qs8
              refine SB.run_plain ?_
              have q := (hX _ hx).1
              unfold SB.runs
              go_simp
              exact SB.detK.mk
            -- 9: slot 39 := Op.move t7
            refine SB.sure_det (js := []) (ts := [7]) (gd := none) (bs := []) (SB.place_at HVS.out (k := 9) rfl) (by rw [HCS.out]; kernel_rfl) (by rw [HCS.out]; kernel_rfl) ?_ ?_
            · intro wx hx ρ hρ hs hf
              have hρc := hρ.const
              have hρf := hρ.func
              obtain ⟨fx7, -⟩ := hf
              rw [qs7] at fx7
              clear hs
              clear HCS HVS qs2 qs5 qs6 qs7 qs8
              refine SB.run_plain ?_
              refine SB.op_move rfl fx7 ?_
              exact SB.detK.mk
            -- 10: slot 40 := Op.move t5
            refine SB.sure_det (js := []) (ts := [5]) (gd := none) (bs := []) (SB.place_at HVS.out (k := 10) rfl) (by rw [HCS.out]; kernel_rfl) (by rw [HCS.out]; kernel_rfl) ?_ ?_
            · intro wx hx ρ hρ hs hf
              have hρc := hρ.const
              have hρf := hρ.func
              obtain ⟨fx5, -⟩ := hf
              rw [qs5] at fx5
              clear hs
              clear HCS HVS qs2 qs5 qs6 qs7 qs8
              refine SB.run_plain ?_
              refine SB.op_move rfl fx5 ?_
              exact SB.detK.mk
            -- 11: slot 41 := Op.binOp BinOp.quo 3 t39 t40 3
            refine SB.sure_det (js := [(9, 39), (10, 40)]) (ts := []) (gd := none) (bs := []) (SB.place_at HVS.out (k := 11) rfl) (by rw [HCS.out]; kernel_rfl) (by rw [HCS.out]; kernel_rfl) ?_ ?_
            · intro wx hx ρ hρ hs hf
              have hρc := hρ.const
              have hρf := hρ.func
              obtain ⟨sn9, sn10, -⟩ := hs
              rw [SB.place_at HVS.out (k := 9) rfl] at sn9
              replace sn9 : ρ (.tmp 39) = _ := sn9
              rw [SB.place_at HVS.out (k := 10) rfl] at sn10
              replace sn10 : ρ (.tmp 40) = _ := sn10
              clear hf
              clear HCS HVS qs2 qs5 qs6 qs7 qs8
              refine SB.run_plain ?_
              unfold SB.runs
              go_simp
              exact SB.detK.mk
            -- 12: slot 42 := Op.fieldAddr 30 t2 1
            refine SB.sure_det (js := []) (ts := [2]) (gd := none) (bs := []) (SB.place_at HVS.out (k := 12) rfl) (by rw [HCS.out]; kernel_rfl) (by rw [HCS.out]; kernel_rfl) ?_ ?_
            · intro wx hx ρ hρ hs hf
              have hρc := hρ.const
              have hρf := hρ.func
              obtain ⟨fx2, -⟩ := hf
              rw [qs2] at fx2
              clear hs
              clear HCS HVS qs2 qs5 qs6 qs7 qs8
              refine SB.run_plain ?_
              unfold SB.runs
              go_simp
              exact SB.detK.mk
            -- 13: slot 43 := Op.indexAddr 28 t42 t41
            refine SB.sure_det (js := [(12, 42), (11, 41)]) (ts := []) (gd := none) (bs := []) (SB.place_at HVS.out (k := 13) rfl) (by rw [HCS.out]; kernel_rfl) (by rw [HCS.out]; kernel_rfl) ?_ ?_
            · intro wx hx ρ hρ hs hf
              have hρc := hρ.const
              have hρf := hρ.func
              obtain ⟨sn12, sn11, -⟩ := hs
              rw [SB.place_at HVS.out (k := 12) rfl] at sn12
              replace sn12 : ρ (.tmp 42) = _ := sn12
              rw [SB.place_at HVS.out (k := 11) rfl] at sn11
              replace sn11 : ρ (.tmp 41) = _ := sn11
              clear hf
              clear HCS HVS qs2 qs5 qs6 qs7 qs8
              refine SB.run_plain ?_
              unfold SB.runs
              go_simp
              exact SB.detK.mk
            -- 14: slot 44 := Op.load 27 t43
            refine SB.sure_det (js := [(13, 43)]) (ts := []) (gd := none) (bs := []) (SB.place_at HVS.out (k := 14) rfl) (by rw [HCS.out]; kernel_rfl) (by rw [HCS.out]; kernel_rfl) ?_ ?_
            · intro wx hx ρ hρ hs hf
              have hρc := hρ.const
              have hρf := hρ.func
              obtain ⟨sn13, -⟩ := hs
              rw [SB.place_at HVS.out (k := 13) rfl] at sn13
              replace sn13 : ρ (.tmp 43) = _ := sn13
              clear hf
              clear HCS HVS qs2 qs5 qs6 qs7 qs8
              refine SB.run_plain ?_
              have q := (hX _ hx).2.1
              unfold SB.runs
              go_simp
              exact SB.detK.mk
            -- 15: slot 45 := Op.move t7
            refine SB.sure_det (js := []) (ts := [7]) (gd := none) (bs := []) (SB.place_at HVS.out (k := 15) rfl) (by rw [HCS.out]; kernel_rfl) (by rw [HCS.out]; kernel_rfl) ?_ ?_
            · intro wx hx ρ hρ hs hf
              have hρc := hρ.const
              have hρf := hρ.func
              obtain ⟨fx7, -⟩ := hf
              rw [qs7] at fx7
              clear hs
              clear HCS HVS qs2 qs5 qs6 qs7 qs8
              refine SB.run_plain ?_
              refine SB.op_move rfl fx7 ?_
              exact SB.detK.mk
            -- 16: slot 46 := Op.move t5
            refine SB.sure_det (js := []) (ts := [5]) (gd := none) (bs := []) (SB.place_at HVS.out (k := 16) rfl) (by rw [HCS.out]; kernel_rfl) (by rw [HCS.out]; kernel_rfl) ?_ ?_
            · intro wx hx ρ hρ hs hf
              have hρc := hρ.const
              have hρf := hρ.func
              obtain ⟨fx5, -⟩ := hf
              rw [qs5] at fx5
              clear hs
              clear HCS HVS qs2 qs5 qs6 qs7 qs8
              refine SB.run_plain ?_
              refine SB.op_move rfl fx5 ?_
              exact SB.detK.mk
            -- 17: slot 47 := Op.binOp BinOp.rem 3 t45 t46 3
            refine SB.sure_det (js := [(15, 45), (16, 46)]) (ts := []) (gd := none) (bs := []) (SB.place_at HVS.out (k := 17) rfl) (by rw [HCS.out]; kernel_rfl) (by rw [HCS.out]; kernel_rfl) ?_ ?_
            · intro wx hx ρ hρ hs hf
              have hρc := hρ.const
              have hρf := hρ.func
              obtain ⟨sn15, sn16, -⟩ := hs
              rw [SB.place_at HVS.out (k := 15) rfl] at sn15
              replace sn15 : ρ (.tmp 45) = _ := sn15
              rw [SB.place_at HVS.out (k := 16) rfl] at sn16
              replace sn16 : ρ (.tmp 46) = _ := sn16
              clear hf
              clear HCS HVS qs2 qs5 qs6 qs7 qs8
              refine SB.run_plain ?_
              unfold SB.runs
              go_simp
              exact SB.detK.mk
            -- 18: slot 48 := Op.indexAddr 27 t44 t47
            refine SB.sure_det (js := [(14, 44), (17, 47)]) (ts := []) (gd := none) (bs := []) (SB.place_at HVS.out (k := 18) rfl) (by rw [HCS.out]; kernel_rfl) (by rw [HCS.out]; kernel_rfl) ?_ ?_
            · intro wx hx ρ hρ hs hf
              have hρc := hρ.const
              have hρf := hρ.func
              obtain ⟨sn14, sn17, -⟩ := hs
              rw [SB.place_at HVS.out (k := 14) rfl] at sn14
              replace sn14 : ρ (.tmp 44) = _ := sn14
              rw [SB.place_at HVS.out (k := 17) rfl] at sn17
              replace sn17 : ρ (.tmp 47) = _ := sn17
              clear hf
              clear HCS HVS qs2 qs5 qs6 qs7 qs8
              refine SB.run_plain ?_
              unfold SB.runs
              go_simp
              exact SB.detK.mk
            -- 19: slot 49 := Op.load 90 t48
            refine SB.sure_det (js := [(18, 48)]) (ts := []) (gd := none) (bs := []) (SB.place_at HVS.out (k := 19) rfl) (by rw [HCS.out]; kernel_rfl) (by rw [HCS.out]; kernel_rfl) ?_ ?_
            · intro wx hx ρ hρ hs hf
              have hρc := hρ.const
              have hρf := hρ.func
              obtain ⟨sn18, -⟩ := hs
              rw [SB.place_at HVS.out (k := 18) rfl] at sn18
              replace sn18 : ρ (.tmp 48) = _ := sn18
              clear hf
              clear HCS HVS qs2 qs5 qs6 qs7 qs8
              refine SB.run_plain ?_
              obtain ⟨-, -, q0, q1, -⟩ := hX _ hx
              unfold SB.runs
              go_simp
              exact SB.detK.mk
            -- 20: slot 50 := Op.move t8
            refine SB.sure_det (js := []) (ts := [8]) (gd := none) (bs := []) (SB.place_at HVS.out (k := 20) rfl) (by rw [HCS.out]; kernel_rfl) (by rw [HCS.out]; kernel_rfl) ?_ ?_
            · intro wx hx ρ hρ hs hf
              have hρc := hρ.const
              have hρf := hρ.func
              obtain ⟨fx8, -⟩ := hf
              rw [qs8] at fx8
              clear hs
              clear HCS HVS qs2 qs5 qs6 qs7 qs8
              refine SB.run_plain ?_
              refine SB.op_move rfl fx8 ?_
              exact SB.detK.mk
            -- 21: slot 51 := Op.call { call ( 49), args := #[t49, t50], argTypes := #[90, 3] }
            refine SB.sure_op (js := [(19, 49), (20, 50)]) (ts := []) (gd := none) (bs := []) (SB.place_at HVS.out (k := 21) rfl) (by rw [HCS.out]; kernel_rfl) (by rw [HCS.out]; kernel_rfl) ?_ ?_
            · intro wx hx ρ hρ hs hf
              have hρc := hρ.const
              have hρf := hρ.func
              obtain ⟨sn19, sn20, -⟩ := hs
              rw [SB.place_at HVS.out (k := 19) rfl] at sn19
              replace sn19 : ρ (.tmp 49) = _ := sn19
              rw [SB.place_at HVS.out (k := 20) rfl] at sn20
              replace sn20 : ρ (.tmp 50) = _ := sn20
              clear hf
              clear HCS HVS qs2 qs5 qs6 qs7 qs8
              refine SB.run_plain ?_
              refine SB.op_call rfl hρ Try.call49 (map_two sn19 sn20) ?_
              refine Calls.mono (cutS_any s z _ (hX _ hx).2.2.2.2.1 hkr) ?_
              rintro e w' ⟨v, rfl, hx5, hc⟩
              exact .inl ⟨_, rfl, hx5, hc⟩
            -- 22: slot 52 := Op.buildSlice 27 1 #[(0, t51]
            refine SB.sure_op (js := [(21, 51)]) (ts := []) (gd := none) (bs := []) (SB.place_at HVS.out (k := 22) rfl) (by rw [HCS.out]; kernel_rfl) (by rw [HCS.out]; kernel_rfl) ?_ ?_
            · intro wx hx ρ hρ hs hf
              have hρc := hρ.const
              have hρf := hρ.func
              obtain ⟨sn21, -⟩ := hs
              rw [SB.place_at HVS.out (k := 21) rfl] at sn21
              replace sn21 : CutS s z wx (ρ (.tmp 51)) := sn21
              clear hf
              clear HCS HVS qs2 qs5 qs6 qs7 qs8
              refine SB.run_plain ?_
              obtain ⟨v', w', hr', hx5, ho⟩ := one_made s z wx _ sn21
              refine SB.op_buildSlice rfl (by simpa using hr') ?_
              exact ⟨hx5, ho⟩
            -- 23: slot 53 := Op.call { append, args := #[t38, t52], argTypes := #[27, 27] }
            refine SB.sure_wild (js := [(8, 38), (22, 52)]) (ts := []) (gd := none) (bs := []) (cs := [gB]) (SB.place_at HVS.out (k := 23) rfl) (by rw [HCS.out]; kernel_rfl) (by rw [HCS.out]; kernel_rfl) rfl ?_ ?_
            · intro wx hx ρ hρ hs hf
              have hρc := hρ.const
              have hρf := hρ.func
              obtain ⟨sn8, sn22, -⟩ := hs
              rw [SB.place_at HVS.out (k := 8) rfl] at sn8
              replace sn8 : ρ (.tmp 38) = _ := sn8
              rw [SB.place_at HVS.out (k := 22) rfl] at sn22
              replace sn22 : OneS s z wx (ρ (.tmp 52)) := sn22
              clear hf
              clear HCS HVS qs2 qs5 qs6 qs7 qs8
              refine SB.run_plain ?_
              have hxx := (hX _ hx).2.2.2.2.2
              obtain ⟨v', w', hr', hx5, ho⟩ := row_more (ownsRow_ext hown1 hxx) (fun x hm => (hlm x hm).ext hxx) sn22 (by omega) (Nat.le_trans hbb hxx.size) gB hgB2
              refine SB.op_append rfl sn8 rfl hr' ?_
              exact ⟨hx5, ho⟩
            -- 24: slot 54 := Op.fieldAddr 30 t6 1
            refine SB.sure_det (js := []) (ts := [6]) (gd := none) (bs := [gB]) (SB.place_at HVS.out (k := 24) rfl) (by rw [HCS.out]; kernel_rfl) (by rw [HCS.out]; kernel_rfl) ?_ ?_
            · intro wx hx ρ hρ hs hf
              have hρc := hρ.const
              have hρf := hρ.func
              obtain ⟨fx6, -⟩ := hf
              rw [qs6] at fx6
              clear hs
              clear HCS HVS qs2 qs5 qs6 qs7 qs8
              refine SB.run_plain ?_
              unfold SB.runs
              go_simp
              exact SB.detK.mk
            exact trivial
          case hend =>
            intro xs wx hx hg hq
            have gk0 : xs 0 = _ := SB.goods_get hg (i := 0) (j := 0) (d := 30) rfl
            have gk1 : xs 1 = _ := SB.goods_get hg (i := 1) (j := 1) (d := 31) rfl
            have gk2 : xs 2 = _ := SB.goods_get hg (i := 2) (j := 2) (d := 32) rfl
            have gk3 : xs 3 = _ := SB.goods_get hg (i := 3) (j := 3) (d := 33) rfl
            have gk4 : xs 4 = _ := SB.goods_get hg (i := 4) (j := 4) (d := 34) rfl
            have gk5 : xs 5 = _ := SB.goods_get hg (i := 5) (j := 5) (d := 35) rfl
            have gk6 : xs 6 = _ := SB.goods_get hg (i := 6) (j := 6) (d := 36) rfl
            have gk7 : xs 7 = _ := SB.goods_get hg (i := 7) (j := 7) (d := 37) rfl
            have gk8 : xs 8 = _ := SB.goods_get hg (i := 8) (j := 8) (d := 38) rfl
            have gk9 : xs 9 = _ := SB.goods_get hg (i := 9) (j := 9) (d := 39) rfl
            have gk10 : xs 10 = _ := SB.goods_get hg (i := 10) (j := 10) (d := 40) rfl
            have gk11 : xs 11 = _ := SB.goods_get hg (i := 11) (j := 11) (d := 41) rfl
            have gk12 : xs 12 = _ := SB.goods_get hg (i := 12) (j := 12) (d := 42) rfl
            have gk13 : xs 13 = _ := SB.goods_get hg (i := 13) (j := 13) (d := 43) rfl
            have gk14 : xs 14 = _ := SB.goods_get hg (i := 14) (j := 14) (d := 44) rfl
            have gk15 : xs 15 = _ := SB.goods_get hg (i := 15) (j := 15) (d := 45) rfl
            have gk16 : xs 16 = _ := SB.goods_get hg (i := 16) (j := 16) (d := 46) rfl
            have gk17 : xs 17 = _ := SB.goods_get hg (i := 17) (j := 17) (d := 47) rfl
            have gk18 : xs 18 = _ := SB.goods_get hg (i := 18) (j := 18) (d := 48) rfl
            have gk19 : xs 19 = _ := SB.goods_get hg (i := 19) (j := 19) (d := 49) rfl
            have gk20 : xs 20 = _ := SB.goods_get hg (i := 20) (j := 20) (d := 50) rfl
            have gk23 : RowS base1 i L1 L0 s z wx (xs 23) := SB.goods_get hg (i := 21) (j := 23) (d := 53) rfl
            have gk24 : xs 24 = _ := SB.goods_get hg (i := 22) (j := 24) (d := 54) rfl
            clear hg hq
            simp only [putAll, gk0, gk1, gk2, gk3, gk4, gk5, gk6, gk7, gk8, gk9, gk10, gk11, gk12, gk13, gk14, gk15, gk16, gk17, gk18, gk19, gk20, gk24]
            clear gk0 gk1 gk2 gk3 gk4 gk5 gk6 gk7 gk8 gk9 gk10 gk11 gk12 gk13 gk14 gk15 gk16 gk17 gk18 gk19 gk20 gk24
            generalize xs 21 = vx21
            generalize xs 22 = vx22
            generalize xs 23 = vx23 at gk23 ⊢
            clear xs
            simp only [Act.put, List.setIfInBounds_toArray, List.set_cons_zero, List.set_cons_succ, List.drop_succ_cons, List.drop_zero]
            obtain ⟨s', A', c', rfl, ho, hoks, hkey⟩ := gk23
            have hxs : SB.ExtS [gB] wr.drew wx := hx
            have hGx : wx.heap[W.heap.size]? = _ := hxs.heap HG.out (by simp; omega)
            clear hx hX
            have f1 : wx.frozen? ⟨W.heap.size, 2, none⟩ = false := by simp [World.frozen?, hGx]
            have q1 : wx.cell? ⟨W.heap.size, 2, none⟩ = some (.slice B1 i b1) := by simp [World.cell?, hGx]
            go_wp2
            have hwxE : Ext W wx := extS_base hxm hxs (by omega)
            have hnew : Ext W (wx.setCell ⟨W.heap.size, 2, none⟩ (.slice A' (i + 1) c')) := hwxE.setCell (Nat.le_refl _) _
            have hbx : wr.heap.size ≤ wx.heap.size := hxs.size
            have hG' : (wx.setCell ⟨W.heap.size, 2, none⟩ (.slice A' (i + 1) c')).heap[W.heap.size]? = some (.cells #[.int .u64 R, .slice B0 n b0, .slice A' (i + 1) c'] 30 (0, 0)) := heap_setCell_at hGx
            have hoA : (wx.setCell ⟨W.heap.size, 2, none⟩ (.slice A' (i + 1) c')).ownsRow base1 90 2 (.slice A' (i + 1) c') (i + 1) (rowCells (L1 ++ [s'])) := own_kept ho fun g hg => Below.heap_setCell _ _ _ _ (by have := (World.ownsRow.lt ho g hg).1; simp; omega)
            have hoks' : ∀ x ∈ L1 ++ [s'] ++ L0, OKT (wx.setCell ⟨W.heap.size, 2, none⟩ (.slice A' (i + 1) c')) x := fun x hm => (hoks x hm).box hGx
            have hkn : (L1 ++ [s']).map St.key = (cutK (ms.drop n) (l1.map St.key)).take (i + 1) := by
              rw [cutK_next (show (l1.map St.key)[i]? = some s.key by rw [List.getElem?_map, hs]; rfl), List.map_append, hk1, hgz, ← hkey]; rfl
            go_roundw
            case rel =>
              have hjj : n + (i + 1) = j + 1 := by omega
              refine ⟨j + 1, B0, A', b0, c', L0, L1 ++ [s'], base1, by omega, by go_num, by rw [hmi2, hsb2]; exact hG', hnew, by
                  rw [hmi2]
                  refine own_kept hown0 fun g hg => ?_
                  have h1' := World.ownsRow.lt hown0 g hg
                  have h2' : g < base1 := by
                    cases B0 with
                    | none => cases hg
                    | some a => exact (Option.some.inj hg) ▸ hfar a rfl
                  rw [Below.heap_setCell _ _ _ _ (by simp; omega)]
                  exact hxs.block g h1'.2 (by simp; omega), by rw [hsb2]; exact hoA, fun x hm => hoks' x (by simp only [List.mem_append] at hm ⊢; exact hm.symm), by
                  rw [hk0, List.take_of_length_le (by rw [cutK_length, hK0]; omega), List.take_of_length_le (by rw [cutK_length, hK0]; omega)], by rw [hsb2]; exact hkn, hb1, by simp [World.setCell]; omega, .inr ⟨by omega, hfar⟩⟩
            case measure => simp [intOf]; omega
    · have hj3 : j = 2 * n := by omega
      subst hj3
      have hmin : min (2 * n) n = n := by omega
      have hsub : 2 * n - n = n := by omega
      have hbx : ∀ a, B0 = some a → a.block < base1 ∨ n = 0 := fun a ha => by
        rcases hph with ⟨h, _⟩ | ⟨_, h⟩
        · exact .inr (by omega)
        · exact .inl (h a ha)
      simp only [hmin, hsub] at hG hown0 hown1 hk1
      have hr0' := own_rowV hown0 fun s hs => hok s (List.mem_append_left _ hs)
      have hr1' := own_rowV hown1 fun s hs => hok s (List.mem_append_right _ hs)
      have hOr := heap_ext HO.out hx
      have hk0' : L0.map St.key = cutK ms (l0.map St.key) := by rw [hk0, List.take_of_length_le (by rw [cutK_length, hK0]; omega)]
      have hk1' : L1.map St.key = cutK (ms.drop n) (l1.map St.key) := by rw [hk1, List.take_of_length_le (by rw [cutK_length, hK1]; omega)]
      have hjI : ¬ ((2 * n : Nat) : Int) < 2 * (n : Int) := by omega
      have z0 := fun vs => RowV.box hr0' hOr (fun v hv => diskish_three v hv rfl rfl rfl) 0 vs
      have z1 := fun vs => RowV.box hr1' hOr (fun v hv => diskish_three v hv rfl rfl rfl) 0 vs
      have d0 : wr.cell? ⟨w.heap.size + 1, 0, none⟩ = some (.int .u64 0) := by simp [World.cell?, hOr]
      have df0 : wr.frozen? ⟨w.heap.size + 1, 0, none⟩ = false := by simp [World.frozen?, hOr]
      have d1 : wr.cell? ⟨w.heap.size + 1, 1, none⟩ = some (.slice none 0 0) := by simp [World.cell?, hOr]
      have df1 : wr.frozen? ⟨w.heap.size + 1, 1, none⟩ = false := by simp [World.frozen?, hOr]
      have d2 : wr.cell? ⟨w.heap.size + 1, 2, none⟩ = some (.slice none 0 0) := by simp [World.cell?, hOr]
      have df2 : wr.frozen? ⟨w.heap.size + 1, 2, none⟩ = false := by simp [World.frozen?, hOr]
      have e0 : wr.cell? ⟨W.heap.size, 0, none⟩ = some (.int .u64 R) := by simp [World.cell?, hG]
      have e1 : wr.cell? ⟨W.heap.size, 1, none⟩ = some (.slice B0 n b0) := by simp [World.cell?, hG]
      have e2 : wr.cell? ⟨W.heap.size, 2, none⟩ = some (.slice B1 n b1) := by simp [World.cell?, hG]
      have hfin := hW.trans hx
      clear hG hOr hmin hsub hown0 hown1 hok hk0 hk1 hph hx
      go_wp2
      refine bodyPost_ret (v := .agg #[.int .u64 R, .slice B0 n b0, .slice B1 n b1]) (by simp [results, Try.results39, go_sem, d0, d1, d2]) rfl ⟨B0, B1, b0, b1, rfl, L0, z0 [.int .u64 R, .slice B0 n b0, .slice B1 n b1], L1, z1 [.int .u64 R, .slice B0 n b0, .slice B1 n b1], hk0', hk1', ?_⟩
      exact setAll_ext (g := w.heap.size + 1) (vs := [.int .u64 R, .slice B0 n b0, .slice B1 n b1]) (i := 0) hfin (by omega)
end Go.Proofs.Ytennnhfaghdeoaa
