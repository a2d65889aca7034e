import Derived.Test.YtennnhfaghdeoaaPlayRun
import Derived.Test.YtennnhfaghdeoaaSureB
import Derived.LoopTactic
namespace Go.Proofs.Ytennnhfaghdeoaa
open Go.RowKit

/-! play.Line. -/
/-- a row of accesses that came in -/
structure AccsV (w : World) (A : Option Addr) (n c : Nat) (l : List Acc) : Prop where
 len : l.length = n
 at_ : ∀ j x, l[j]? = some x → ∃ a, A = some a ∧ ∀ k v, x.cells[k]? = some v → w.cell? ((a.add (j * 6)).add k) = some v
theorem AccsV.ext {w w' : World} {A : Option Addr} {n c : Nat} {l : List Acc} (h : AccsV w A n c l) (hx : Ext w w') : AccsV w' A n c l :=
 ⟨h.len, fun j x hj => let ⟨a, ha, hc⟩ := h.at_ j x hj; ⟨a, ha, fun k v hk => hx.cell (hc k v hk)⟩⟩
/-- the sum of what is told -/
def sumN : List Res → Int
 | [] => 0
 | r :: rs => r.n + sumN rs
def lineSum (rs : List Res) (j : Nat) : Int := IntKind.u64.wrap (sumN (rs.take j))
theorem sumN_append : ∀ a b : List Res, sumN (a ++ b) = sumN a + sumN b
 | [], b => by simp [sumN]
 | x :: a, b => by simp [sumN, sumN_append a b, Int.add_assoc]
theorem lineSum_step {rs R : List Res} {r : Res} {j : Nat} (h : rs.drop j = r :: R) : IntKind.u64.wrap (lineSum rs j + r.n) = lineSum rs (j + 1) := by
 have hj : rs[j]? = some r := by
  have := congrArg (fun l : List Res => l[0]?) h
  simpa using this
 have ht : rs.take (j + 1) = rs.take j ++ [r] := by
  rw [List.take_add_one, hj]; rfl
 simp only [lineSum, ht, sumN_append, IntKind.wrap_u64, sumN]
 omega
theorem drop_step {rs R : List Res} {r : Res} {j : Nat} (h : rs.drop j = r :: R) : rs.drop (j + 1) = R ∧ j < rs.length := by
 have h1 : (rs.drop j).drop 1 = R := by rw [h]; rfl
 refine ⟨by rw [← h1, List.drop_drop], ?_⟩
 rcases Nat.lt_or_ge j rs.length with h2 | h2
 ·exact h2
 ·rw [List.drop_of_length_le h2] at h; cases h
theorem extB_of_S {gA gO : Nat} {w W w' : World} (h : ExtB gA w W) (hx : SB.ExtS [gA, gO] W.drew w') (hO : w.heap.size ≤ gO) : ExtB gA w w' :=
 ⟨hx.os.trans h.os, hx.tape.trans h.tape, hx.output.trans h.output, Nat.le_trans h.size hx.size, fun k hk hn => by
  rw [← h.block k hk hn]
  refine hx.block k (Nat.lt_of_lt_of_le hk h.size) ?_
  simp only [List.mem_cons, List.not_mem_nil, or_false, not_or]
  exact ⟨hn, by omega⟩⟩
theorem ExtB.trans_set {gA gO : Nat} {w w' : World} (h : ExtB gA w w') (hO : w.heap.size ≤ gO) {i : Nat} {u : Value} : ExtB gA w (w'.setCell ⟨gO, i, none⟩ u) :=
 ⟨h.os, h.tape, h.output, by simpa [World.setCell] using h.size, fun k hk hn => by
  rw [Below.heap_setCell _ _ _ _ (by simp; omega)]; exact h.block k hk hn⟩
set_option maxRecDepth 100000 in
set_option maxHeartbeats 4000000 in
theorem line_prog (A : Option Addr) (n c : Nat) (l : List Acc) (gA gL gl m : Nat) (fr : Nat × Nat) (rs : List Res) (w : World) (hl : AccsV w A n c l) (hsep : ∀ a, A = some a → 0 < n → a.block ≠ gA) (hgl : w.heap[gl]? = some (.cells #[.slice A n c] 22 fr)) (hne : gl ≠ gA) (hn : n ≤ 65536)
  (hdo : DoAt m w gA gL rs) (hm : m ≤ w.heap.size) :
  Calls Try.prog 77 #[doV gA gL, .pointer (some ⟨gl, 0, none⟩)] w fun e w' => (if n ≤ rs.length then e = .returned (.agg (OutN.cells ⟨0, false, n, lineSum rs n⟩)) else ∃ x, l[rs.length]? = some x ∧ e = needP x.cells) ∧ ExtB gA w w' := by
 have hW : Ext w ((w.alloc (.cells outZero 46)).alloc (.cells outZero 46)) := ((Below.refl _ w).alloc (Nat.le_refl _) _).alloc (by simp) _
 have h3 : ((w.alloc (.cells outZero 46)).alloc (.cells outZero 46)).heap[w.heap.size]? = some (.cells outZero 46 (0, 0)) := by
  rw [Below.heap_alloc _ _ _ (by simp)]; exact heap_alloc_new w _
 have h4 : ((w.alloc (.cells outZero 46)).alloc (.cells outZero 46)).heap[w.heap.size + 1]? = some (.cells outZero 46 (0, 0)) := by
  simpa using heap_alloc_new (w.alloc (.cells outZero 46)) (.cells outZero 46)
 have cl : w.cell? ⟨gl, 0, none⟩ = some (.slice A n c) := by simp [World.cell?, hgl]
 obtain ⟨hgA, hgL⟩ := hdo.sizes
 simp only [doV]
 go_enter Try.func77, Try.ntmps77
 go_upto_region 2 with (fail)
 change Code.wp _ _ _ _ ((w.alloc (.cells outZero 46)).alloc (.cells outZero 46))
 have cl2 := hW.cell cl
 replace hdo := hdo.ext hW
 have hsz := hW.size
 generalize ((w.alloc (.cells outZero 46)).alloc (.cells outZero 46)) = W at *
 go_upto_region 3 with (fail)
 go_loopw [9] (fun i wr => ∃ j : Nat, j ≤ n ∧ j ≤ rs.length ∧ i = .int .i64 j ∧ DoAt m wr gA gL (rs.drop j) ∧ wr.heap[w.heap.size + 1]? = some (.cells #[.int .i64 0, .bool false, .int .i64 j, .int .u64 (lineSum rs j), .slice none 0 0] 46 (0, 0)) ∧ wr.heap[w.heap.size]? = some (.cells outZero 46 (0, 0)) ∧ ExtB gA w wr) (fun i _ => n - (intOf i).toNat)
 case atStart => exact ⟨0, Nat.zero_le _, Nat.zero_le _, rfl, hdo, h4, h3, ExtB.of hW⟩
 case round =>
  obtain ⟨j, hj, hjr, rfl, hD, hg4, hg3, hB⟩ := hrel
  rcases Nat.lt_or_ge j n with hjn | hjn
  ·obtain ⟨a, rfl, hx⟩ := hl.at_ j (l[j]'(by rw [hl.len]; exact hjn)) (List.getElem?_eq_getElem _)
   have hab := hsep a rfl (by omega)
   have hlx : l[j]? = some (l[j]'(by rw [hl.len]; exact hjn)) := List.getElem?_eq_getElem _
   generalize (l[j]'(by rw [hl.len]; exact hjn)) = x at *
   obtain ⟨x0, x1, x2, x3, x4, x5, x6, x7, x8, x9⟩ := x
   have y0 := hB.cell (hx 0 (.int .i64 x0) rfl) (by rw [add_block, add_block]; exact hab)
   rw [show ((a.add (j * 6)).add 0) = a.add (j * 6) from rfl] at y0
   have y1 := hB.cell (hx 1 (.int .i64 x1) rfl) (by rw [add_block, add_block]; exact hab)
   rw [show ((a.add (j * 6)).add 1) = ⟨(a.add (j * 6)).block, (a.add (j * 6)).off + 1, none⟩ from rfl] at y1
   have y2 := hB.cell (hx 2 (.int .u64 x2) rfl) (by rw [add_block, add_block]; exact hab)
   rw [show ((a.add (j * 6)).add 2) = ⟨(a.add (j * 6)).block, (a.add (j * 6)).off + 2, none⟩ from rfl] at y2
   have y3 := hB.cell (hx 3 (.int .u64 x3) rfl) (by rw [add_block, add_block]; exact hab)
   rw [show ((a.add (j * 6)).add 3) = ⟨(a.add (j * 6)).block, (a.add (j * 6)).off + 3, none⟩ from rfl] at y3
   have y4 := hB.cell (hx 4 (.slice x4 x5 x6) rfl) (by rw [add_block, add_block]; exact hab)
   rw [show ((a.add (j * 6)).add 4) = ⟨(a.add (j * 6)).block, (a.add (j * 6)).off + 4, none⟩ from rfl] at y4
   have y5 := hB.cell (hx 5 (.slice x7 x8 x9) rfl) (by rw [add_block, add_block]; exact hab)
   rw [show ((a.add (j * 6)).add 5) = ⟨(a.add (j * 6)).block, (a.add (j * 6)).off + 5, none⟩ from rfl] at y5
   go_upto_region 5 with (fail)
   have hW5 : Ext wr (wr.alloc (.cells #[.int .i64 x0, .int .i64 x1, .int .u64 x2, .int .u64 x3, .slice x4 x5 x6, .slice x7 x8 x9] 42)) := (Below.refl _ wr).alloc (Nat.le_refl _) _
   have h6 : (wr.alloc (.cells #[.int .i64 x0, .int .i64 x1, .int .u64 x2, .int .u64 x3, .slice x4 x5 x6, .slice x7 x8 x9] 42)).heap[wr.heap.size]? = some (.cells #[.int .i64 x0, .int .i64 x1, .int .u64 x2, .int .u64 x3, .slice x4 x5 x6, .slice x7 x8 x9] 42 (0, 0)) := heap_alloc_new wr _
   have hD5 := hD.ext hW5
   have hg5 := heap_ext hg4 hW5
   have hg6 := heap_ext hg3 hW5
   have hB5 := hB.trans (ExtB.of hW5)
   have hs4 : w.heap.size + 1 < wr.heap.size := (Array.getElem?_eq_some_iff.1 hg4).1
   generalize (wr.alloc (.cells #[.int .i64 x0, .int .i64 x1, .int .u64 x2, .int .u64 x3, .slice x4 x5 x6, .slice x7 x8 x9] 42)) = W5 at *
   have b0 : W5.cell? ⟨wr.heap.size, 0, none⟩ = some (.int .i64 x0) := by simp [World.cell?, h6]
   have b1 : W5.cell? ⟨wr.heap.size, 1, none⟩ = some (.int .i64 x1) := by simp [World.cell?, h6]
   have b2 : W5.cell? ⟨wr.heap.size, 2, none⟩ = some (.int .u64 x2) := by simp [World.cell?, h6]
   have b3 : W5.cell? ⟨wr.heap.size, 3, none⟩ = some (.int .u64 x3) := by simp [World.cell?, h6]
   have b4 : W5.cell? ⟨wr.heap.size, 4, none⟩ = some (.slice x4 x5 x6) := by simp [World.cell?, h6]
   have b5 : W5.cell? ⟨wr.heap.size, 5, none⟩ = some (.slice x7 x8 x9) := by simp [World.cell?, h6]
   have z2 : W5.cell? ⟨w.heap.size + 1, 2, none⟩ = some (.int .i64 j) := by simp [World.cell?, hg5]
   have z3 : W5.cell? ⟨w.heap.size + 1, 3, none⟩ = some (.int .u64 (lineSum rs j)) := by simp [World.cell?, hg5]
   generalize wr.heap.size = g6 at *
   have ng : w.heap.size + 1 ≠ gA := by omega
   have ngL : gL ≠ w.heap.size + 1 := by omega
   have nm : m ≤ w.heap.size + 1 := by omega
   clear y0 y1 y2 y3 y4 y5 hx hD hB hW5 h6 hdo cl2 hW h3 h4 cl hgl hg3 hg4
   have HB5 := Lib.hid hB5
   have HG5 := Lib.hid hg5
   have HG6 := Lib.hid hg6
   clear hB5 hg5 hg6
   have hwj : IntKind.i64.wrap ((j : Int) + 1) = (j : Int) + 1 := by rw [IntKind.wrap_i64]; omega
   generalize hR : rs.drop j = R at *
   generalize hgO : w.heap.size + 1 = gO at *
   have hX2 : ∀ bs wx, SB.ExtS bs W5.drew wx → gO ∉ bs → wx.cell? ⟨gO, 2, none⟩ = some (.int .i64 j) := fun bs wx hx hb => hx.cell z2 hb
   have hX3 : ∀ bs wx, SB.ExtS bs W5.drew wx → gO ∉ bs → wx.cell? ⟨gO, 3, none⟩ = some (.int .u64 (lineSum rs j)) := fun bs wx hx hb => hx.cell z3 hb
   have hX6 : ∀ wx, SB.ExtS [] W5.drew wx → wx.cell? ⟨g6, 0, none⟩ = some (.int .i64 x0) ∧ wx.cell? ⟨g6, 1, none⟩ = some (.int .i64 x1) ∧ wx.cell? ⟨g6, 2, none⟩ = some (.int .u64 x2) ∧ wx.cell? ⟨g6, 3, none⟩ = some (.int .u64 x3) ∧ wx.cell? ⟨g6, 4, none⟩ = some (.slice x4 x5 x6) ∧ wx.cell? ⟨g6, 5, none⟩ = some (.slice x7 x8 x9) := fun wx hx =>
    ⟨hx.cell b0 (by simp), hx.cell b1 (by simp), hx.cell b2 (by simp), hx.cell b3 (by simp), hx.cell b4 (by simp), hx.cell b5 (by simp)⟩
   clear z2 z3 b0 b1 b2 b3 b4 b5
   cases R with
   | nil =>
    refine' SB.wp_region_sure (gx := [(7, gA), (11, gO)]) (Pn := fun chain wx => Ending.panicked chain = needP #[.int .i64 x0, .int .i64 x1, .int .u64 x2, .int .u64 x3, .slice x4 x5 x6, .slice x7 x8 x9] ∧ Ext W5 wx) ⟨((some 13, [], none) :: (some 14, [0], none) :: (some 15, [1], none) :: (some 16, [], none) :: (some 17, [3], none) :: (some 18, [], none) :: (some 19, [], none) :: (some 20, [5, 6], none) :: (some 21, [7], none) :: (some 22, [4, 8], none) :: (some 23, [0, 1, 2, 3, 4], none) :: (none, [10, 2, 7, 0, 1, 2, 3, 4], none) :: (some 24, [0, 1, 2, 3, 4, 5, 6, 7, 8, 9, 10, 11], none) :: (none, [12, 9, 11, 0, 1, 2, 3, 4, 5, 6, 7, 8, 9, 10, 11], none) :: []), (0 :: 1 :: 3 :: 0 :: 8 :: 0 :: 0 :: 96 :: 224 :: 504 :: 31 :: 1279 :: 4095 :: 8191 :: []), (none :: none :: none :: none :: none :: none :: none :: none :: none :: none :: none :: none :: []), [7, 11]⟩ 12 27 ((0, 13) :: (1, 14) :: (2, 15) :: (3, 16) :: (4, 17) :: (5, 18) :: (6, 19) :: (7, 20) :: (8, 21) :: (9, 22) :: (10, 23) :: []) ((0, 13) :: (1, 14) :: (2, 15) :: (3, 16) :: (4, 17) :: (5, 18) :: (6, 19) :: (7, 20) :: (8, 21) :: (9, 22) :: (10, 23) :: []) (.det _ :: .det _ :: .det _ :: .det _ :: .det _ :: .det _ :: .det _ :: (SB.Good.own fun v => False) :: (SB.Good.own fun v => False) :: (SB.Good.own fun v => False) :: .det _ :: (SB.Good.own fun v => False) :: []) (by kernel_rfl) ?hpan (by kernel_rfl) (by kernel_rfl) rfl (by kernel_rfl) (by kernel_rfl) rfl ?hone ?hend
    case hpan =>
     (intro chain a' w' hdf hch; have hjj : j = rs.length := (by have := congrArg List.length hR; simp at this; omega); exact ⟨hdf, (by rw [if_neg (by omega)]; exact ⟨⟨x0, x1, x2, x3, x4, x5, x6, x7, x8, x9⟩, hjj ▸ hlx, hch.1⟩), HB5.out.trans (ExtB.of hch.2)⟩)
    case hone =>
     intro CS frS VS hCS ha hV
     have qs0 := slot_val (t := 0) ha rfl
     simp only [List.getElem_toArray, List.getElem_cons_succ, List.getElem_cons_zero] at qs0
     have qs4 := slot_val (t := 4) ha rfl
     simp only [List.getElem_toArray, List.getElem_cons_succ, List.getElem_cons_zero] at qs4
     have qs6 := slot_val (t := 6) ha rfl
     simp only [List.getElem_toArray, List.getElem_cons_succ, List.getElem_cons_zero] at qs6
     have HCS := Lib.hid hCS
     have HVS := Lib.hid hV
     clear ha hCS hV
     refine SB.sure_det (js := []) (ts := [4]) (gd := none) (bs := [gA]) (SB.place_at HVS.out (k := 0) rfl) (by rw [HCS.out]; kernel_rfl) (by rw [HCS.out]; kernel_rfl) ?_ ?_
     ·intro wx hx ρ hρ hs hf; have hρc := hρ.const; have hρf := hρ.func
      obtain ⟨fx4, -⟩ := hf; rw [qs4] at fx4
      clear hs
      clear HCS HVS qs0 qs4 qs6
      refine SB.run_plain ?_
      unfold SB.runs
      go_simp
      exact SB.detK.mk
     refine SB.sure_det (js := [(0, 13)]) (ts := []) (gd := none) (bs := [gA]) (SB.place_at HVS.out (k := 1) rfl) (by rw [HCS.out]; kernel_rfl) (by rw [HCS.out]; kernel_rfl) ?_ ?_
     ·intro wx hx ρ hρ hs hf; have hρc := hρ.const; have hρf := hρ.func; obtain ⟨sn0, -⟩ := hs
      rw [SB.place_at HVS.out (k := 0) rfl] at sn0; replace sn0 : ρ (.tmp 13) = _ := sn0
      clear hf
      clear HCS HVS qs0 qs4 qs6
      refine SB.run_plain ?_
      have z2 := hX2 _ _ hx (by simp [ng])
      unfold SB.runs
      go_simp
      exact SB.detK.mk
     refine SB.sure_det (js := [(1, 14)]) (ts := []) (gd := none) (bs := [gA]) (SB.place_at HVS.out (k := 2) rfl) (by rw [HCS.out]; kernel_rfl) (by rw [HCS.out]; kernel_rfl) ?_ ?_
     ·intro wx hx ρ hρ hs hf; have hρc := hρ.const; have hρf := hρ.func; obtain ⟨sn1, -⟩ := hs
      rw [SB.place_at HVS.out (k := 1) rfl] at sn1; replace sn1 : ρ (.tmp 14) = _ := sn1
      clear hf
      clear HCS HVS qs0 qs4 qs6
      refine SB.run_plain ?_
      unfold SB.runs
      go_simp
      exact SB.detK.mk
     refine SB.sure_det (js := []) (ts := [4]) (gd := none) (bs := [gA]) (SB.place_at HVS.out (k := 3) rfl) (by rw [HCS.out]; kernel_rfl) (by rw [HCS.out]; kernel_rfl) ?_ ?_
     ·intro wx hx ρ hρ hs hf; have hρc := hρ.const; have hρf := hρ.func
      obtain ⟨fx4, -⟩ := hf; rw [qs4] at fx4
      clear hs
      clear HCS HVS qs0 qs4 qs6
      refine SB.run_plain ?_
      unfold SB.runs
      go_simp
      exact SB.detK.mk
     refine SB.sure_det (js := [(3, 16)]) (ts := []) (gd := none) (bs := [gA]) (SB.place_at HVS.out (k := 4) rfl) (by rw [HCS.out]; kernel_rfl) (by rw [HCS.out]; kernel_rfl) ?_ ?_
     ·intro wx hx ρ hρ hs hf; have hρc := hρ.const; have hρf := hρ.func; obtain ⟨sn3, -⟩ := hs
      rw [SB.place_at HVS.out (k := 3) rfl] at sn3; replace sn3 : ρ (.tmp 16) = _ := sn3
      clear hf
      clear HCS HVS qs0 qs4 qs6
      refine SB.run_plain ?_
      have z3 := hX3 _ _ hx (by simp [ng])
      unfold SB.runs
      go_simp
      exact SB.detK.mk
     refine SB.sure_det (js := []) (ts := [0]) (gd := none) (bs := []) (SB.place_at HVS.out (k := 5) rfl) (by rw [HCS.out]; kernel_rfl) (by rw [HCS.out]; kernel_rfl) ?_ ?_
     ·intro wx hx ρ hρ hs hf; have hρc := hρ.const; have hρf := hρ.func
      obtain ⟨fx0, -⟩ := hf; rw [qs0] at fx0
      clear hs
      clear HCS HVS qs0 qs4 qs6
      refine SB.run_plain ?_
      refine SB.op_move rfl fx0 ?_
      exact SB.detK.mk
     refine SB.sure_det (js := []) (ts := [6]) (gd := none) (bs := []) (SB.place_at HVS.out (k := 6) rfl) (by rw [HCS.out]; kernel_rfl) (by rw [HCS.out]; kernel_rfl) ?_ ?_
     ·intro wx hx ρ hρ hs hf; have hρc := hρ.const; have hρf := hρ.func
      obtain ⟨fx6, -⟩ := hf; rw [qs6] at fx6
      clear hs
      clear HCS HVS qs0 qs4 qs6
      refine SB.run_plain ?_
      obtain ⟨b0, b1, b2, b3, b4, b5⟩ := hX6 _ hx
      unfold SB.runs
      go_simp
      exact SB.detK.mk
     refine SB.sure_wild (js := [(5, 18), (6, 19)]) (ts := []) (gd := none) (bs := []) (cs := [gA]) (SB.place_at HVS.out (k := 7) rfl) (by rw [HCS.out]; kernel_rfl) (by rw [HCS.out]; kernel_rfl) rfl ?_ ?_
     ·intro wx hx ρ hρ hs hf; have hρc := hρ.const; have hρf := hρ.func; obtain ⟨sn5, sn6, -⟩ := hs
      rw [SB.place_at HVS.out (k := 5) rfl] at sn5; replace sn5 : ρ (.tmp 18) = _ := sn5
      rw [SB.place_at HVS.out (k := 6) rfl] at sn6; replace sn6 : ρ (.tmp 19) = _ := sn6
      clear hf
      clear HCS HVS qs0 qs4 qs6
      refine SB.run_plain ?_
      refine SB.op_callv rfl sn5 Try.call84 (map_one sn6) ?_
      refine Calls.mono (do_stop (.int .i64 x0) (.int .i64 x1) (.int .u64 x2) (.int .u64 x3) (.slice x4 x5 x6) (.slice x7 x8 x9) gA gL m wx (hD5.ext hx.ext.drawn)) ?_
      rintro e w' ⟨rfl, hx7⟩
      exact .inr ⟨_, rfl, rfl, hx.ext.drawn.trans hx7⟩
     refine SB.sure_op (js := [(7, 20)]) (ts := []) (gd := none) (bs := [gA, gO]) (SB.place_at HVS.out (k := 8) rfl) (by rw [HCS.out]; kernel_rfl) (by rw [HCS.out]; kernel_rfl) ?_ ?_
     ·intro wx hx ρ hρ hs hf; have hρc := hρ.const; have hρf := hρ.func; obtain ⟨sn7, -⟩ := hs
      rw [SB.place_at HVS.out (k := 7) rfl] at sn7; replace sn7 : False := sn7
      clear hf
      clear HCS HVS qs0 qs4 qs6
      refine SB.run_plain ?_
      exact sn7.elim
     refine SB.sure_op (js := [(4, 17), (8, 21)]) (ts := []) (gd := none) (bs := [gA, gO]) (SB.place_at HVS.out (k := 9) rfl) (by rw [HCS.out]; kernel_rfl) (by rw [HCS.out]; kernel_rfl) ?_ ?_
     ·intro wx hx ρ hρ hs hf; have hρc := hρ.const; have hρf := hρ.func; obtain ⟨sn4, sn8, -⟩ := hs
      rw [SB.place_at HVS.out (k := 4) rfl] at sn4; replace sn4 : ρ (.tmp 17) = _ := sn4
      rw [SB.place_at HVS.out (k := 8) rfl] at sn8; replace sn8 : False := sn8
      clear hf
      clear HCS HVS qs0 qs4 qs6
      refine SB.run_plain ?_
      exact sn8.elim
     refine SB.sure_det (js := []) (ts := [4]) (gd := none) (bs := [gA]) (SB.place_at HVS.out (k := 10) rfl) (by rw [HCS.out]; kernel_rfl) (by rw [HCS.out]; kernel_rfl) ?_ ?_
     ·intro wx hx ρ hρ hs hf; have hρc := hρ.const; have hρf := hρ.func
      obtain ⟨fx4, -⟩ := hf; rw [qs4] at fx4
      clear hs
      clear HCS HVS qs0 qs4 qs6
      refine SB.run_plain ?_
      unfold SB.runs
      go_simp
      exact SB.detK.mk
     refine SB.sure_wild (js := [(2, 15), (7, 20), (10, 23)]) (ts := []) (gd := none) (bs := [gA]) (cs := [gO]) (SB.place_at HVS.out (k := 11) rfl) (by rw [HCS.out]; kernel_rfl) (by rw [HCS.out]; kernel_rfl) rfl ?_ ?_
     ·intro wx hx ρ hρ hs hf; have hρc := hρ.const; have hρf := hρ.func; obtain ⟨sn2, sn7, sn10, -⟩ := hs
      rw [SB.place_at HVS.out (k := 2) rfl] at sn2; replace sn2 : ρ (.tmp 15) = _ := sn2
      rw [SB.place_at HVS.out (k := 7) rfl] at sn7; replace sn7 : False := sn7
      rw [SB.place_at HVS.out (k := 10) rfl] at sn10; replace sn10 : ρ (.tmp 23) = _ := sn10
      clear hf
      clear HCS HVS qs0 qs4 qs6
      refine SB.run_plain ?_
      exact sn7.elim
     exact trivial
    case hend =>
     intro xs wx hx hg hq
     have gk0 : xs 0 = _ := SB.goods_get hg (i := 0) (j := 0) (d := 13) rfl
     have gk1 : xs 1 = _ := SB.goods_get hg (i := 1) (j := 1) (d := 14) rfl
     have gk2 : xs 2 = _ := SB.goods_get hg (i := 2) (j := 2) (d := 15) rfl
     have gk3 : xs 3 = _ := SB.goods_get hg (i := 3) (j := 3) (d := 16) rfl
     have gk4 : xs 4 = _ := SB.goods_get hg (i := 4) (j := 4) (d := 17) rfl
     have gk5 : xs 5 = _ := SB.goods_get hg (i := 5) (j := 5) (d := 18) rfl
     have gk6 : xs 6 = _ := SB.goods_get hg (i := 6) (j := 6) (d := 19) rfl
     have gk7 : False := SB.goods_get hg (i := 7) (j := 7) (d := 20) rfl
     have gk8 : False := SB.goods_get hg (i := 8) (j := 8) (d := 21) rfl
     have gk9 : False := SB.goods_get hg (i := 9) (j := 9) (d := 22) rfl
     have gk10 : xs 10 = _ := SB.goods_get hg (i := 10) (j := 10) (d := 23) rfl
     obtain ⟨-, gk11⟩ : ∃ v : Value, False := hq 11 (by decide) (by kernel_rfl)
     clear hg hq
     simp only [putAll, gk0, gk1, gk2, gk3, gk4, gk5, gk6, gk10]
     clear gk0 gk1 gk2 gk3 gk4 gk5 gk6 gk10
     generalize xs 7 = vx7 at gk7 ⊢
     generalize xs 8 = vx8 at gk8 ⊢
     generalize xs 9 = vx9 at gk9 ⊢
     clear xs
     simp only [Act.put, List.setIfInBounds_toArray, List.set_cons_zero, List.set_cons_succ, List.drop_succ_cons, List.drop_zero]
     exact gk7.elim
   | cons r R =>
    refine' SB.wp_region_sure (gx := [(7, gA), (11, gO)]) (Pn := fun _ _ => False) ⟨((some 13, [], none) :: (some 14, [0], none) :: (some 15, [1], none) :: (some 16, [], none) :: (some 17, [3], none) :: (some 18, [], none) :: (some 19, [], none) :: (some 20, [5, 6], none) :: (some 21, [7], none) :: (some 22, [4, 8], none) :: (some 23, [0, 1, 2, 3, 4], none) :: (none, [10, 2, 7, 0, 1, 2, 3, 4], none) :: (some 24, [0, 1, 2, 3, 4, 5, 6, 7, 8, 9, 10, 11], none) :: (none, [12, 9, 11, 0, 1, 2, 3, 4, 5, 6, 7, 8, 9, 10, 11], none) :: []), (0 :: 1 :: 3 :: 0 :: 8 :: 0 :: 0 :: 96 :: 224 :: 504 :: 31 :: 1279 :: 4095 :: 8191 :: []), (none :: none :: none :: none :: none :: none :: none :: some [11] :: none :: none :: none :: some [] :: []), [7, 11]⟩ 12 27 ((0, 13) :: (1, 14) :: (2, 15) :: (3, 16) :: (4, 17) :: (5, 18) :: (6, 19) :: (7, 20) :: (8, 21) :: (9, 22) :: (10, 23) :: []) ((0, 13) :: (1, 14) :: (2, 15) :: (3, 16) :: (4, 17) :: (5, 18) :: (6, 19) :: (7, 20) :: (8, 21) :: (9, 22) :: (10, 23) :: []) (.det _ :: .det _ :: .det _ :: .det _ :: .det _ :: .det _ :: .det _ :: SB.Good.past (fun v w => v = .agg #[.int .u64 r.n, .slice r.A r.k r.c, .bool r.fail] ∧ DoAt m w gA gL R) (fun v w w' h hx => ⟨h.1, h.2.ext hx⟩) 11 (fun v w w' h hx => ⟨h.1, h.2.away hx.toB (Ne.symm ng) ngL nm⟩) :: .det _ :: .det _ :: .det _ :: SB.Good.of (fun v w => DoAt m w gA gL R ∧ w.heap[gO]? = some (.cells #[.int .i64 0, .bool false, .int .i64 ((j : Int) + 1), .int .u64 (lineSum rs j), .slice none 0 0] 46 (0, 0))) (fun v w w' h hx => ⟨h.1.ext hx, heap_ext h.2 hx⟩) :: []) (by kernel_rfl) ?hpan (by kernel_rfl) (by kernel_rfl) rfl (by kernel_rfl) (by kernel_rfl) rfl ?hone ?hend
    case hpan =>
     intro _ _ _ _ h; exact h.elim
    case hone =>
     intro CS frS VS hCS ha hV
     have qs0 := slot_val (t := 0) ha rfl
     simp only [List.getElem_toArray, List.getElem_cons_succ, List.getElem_cons_zero] at qs0
     have qs4 := slot_val (t := 4) ha rfl
     simp only [List.getElem_toArray, List.getElem_cons_succ, List.getElem_cons_zero] at qs4
     have qs6 := slot_val (t := 6) ha rfl
     simp only [List.getElem_toArray, List.getElem_cons_succ, List.getElem_cons_zero] at qs6
     have HCS := Lib.hid hCS
     have HVS := Lib.hid hV
     clear ha hCS hV
     refine SB.sure_det (js := []) (ts := [4]) (gd := none) (bs := [gA]) (SB.place_at HVS.out (k := 0) rfl) (by rw [HCS.out]; kernel_rfl) (by rw [HCS.out]; kernel_rfl) ?_ ?_
     ·intro wx hx ρ hρ hs hf; have hρc := hρ.const; have hρf := hρ.func
      obtain ⟨fx4, -⟩ := hf; rw [qs4] at fx4
      clear hs
      clear HCS HVS qs0 qs4 qs6
      refine SB.run_plain ?_
      unfold SB.runs
      go_simp
      exact SB.detK.mk
     refine SB.sure_det (js := [(0, 13)]) (ts := []) (gd := none) (bs := [gA]) (SB.place_at HVS.out (k := 1) rfl) (by rw [HCS.out]; kernel_rfl) (by rw [HCS.out]; kernel_rfl) ?_ ?_
     ·intro wx hx ρ hρ hs hf; have hρc := hρ.const; have hρf := hρ.func; obtain ⟨sn0, -⟩ := hs
      rw [SB.place_at HVS.out (k := 0) rfl] at sn0; replace sn0 : ρ (.tmp 13) = _ := sn0
      clear hf
      clear HCS HVS qs0 qs4 qs6
      refine SB.run_plain ?_
      have z2 := hX2 _ _ hx (by simp [ng])
      unfold SB.runs
      go_simp
      exact SB.detK.mk
     refine SB.sure_det (js := [(1, 14)]) (ts := []) (gd := none) (bs := [gA]) (SB.place_at HVS.out (k := 2) rfl) (by rw [HCS.out]; kernel_rfl) (by rw [HCS.out]; kernel_rfl) ?_ ?_
     ·intro wx hx ρ hρ hs hf; have hρc := hρ.const; have hρf := hρ.func; obtain ⟨sn1, -⟩ := hs
      rw [SB.place_at HVS.out (k := 1) rfl] at sn1; replace sn1 : ρ (.tmp 14) = _ := sn1
      clear hf
      clear HCS HVS qs0 qs4 qs6
      refine SB.run_plain ?_
      unfold SB.runs
      go_simp
      exact SB.detK.mk
     refine SB.sure_det (js := []) (ts := [4]) (gd := none) (bs := [gA]) (SB.place_at HVS.out (k := 3) rfl) (by rw [HCS.out]; kernel_rfl) (by rw [HCS.out]; kernel_rfl) ?_ ?_
     ·intro wx hx ρ hρ hs hf; have hρc := hρ.const; have hρf := hρ.func
      obtain ⟨fx4, -⟩ := hf; rw [qs4] at fx4
      clear hs
      clear HCS HVS qs0 qs4 qs6
      refine SB.run_plain ?_
      unfold SB.runs
      go_simp
      exact SB.detK.mk
     refine SB.sure_det (js := [(3, 16)]) (ts := []) (gd := none) (bs := [gA]) (SB.place_at HVS.out (k := 4) rfl) (by rw [HCS.out]; kernel_rfl) (by rw [HCS.out]; kernel_rfl) ?_ ?_
     ·intro wx hx ρ hρ hs hf; have hρc := hρ.const; have hρf := hρ.func; obtain ⟨sn3, -⟩ := hs
      rw [SB.place_at HVS.out (k := 3) rfl] at sn3; replace sn3 : ρ (.tmp 16) = _ := sn3
      clear hf
      clear HCS HVS qs0 qs4 qs6
      refine SB.run_plain ?_
      have z3 := hX3 _ _ hx (by simp [ng])
      unfold SB.runs
      go_simp
      exact SB.detK.mk
     refine SB.sure_det (js := []) (ts := [0]) (gd := none) (bs := []) (SB.place_at HVS.out (k := 5) rfl) (by rw [HCS.out]; kernel_rfl) (by rw [HCS.out]; kernel_rfl) ?_ ?_
     ·intro wx hx ρ hρ hs hf; have hρc := hρ.const; have hρf := hρ.func
      obtain ⟨fx0, -⟩ := hf; rw [qs0] at fx0
      clear hs
      clear HCS HVS qs0 qs4 qs6
      refine SB.run_plain ?_
      refine SB.op_move rfl fx0 ?_
      exact SB.detK.mk
     refine SB.sure_det (js := []) (ts := [6]) (gd := none) (bs := []) (SB.place_at HVS.out (k := 6) rfl) (by rw [HCS.out]; kernel_rfl) (by rw [HCS.out]; kernel_rfl) ?_ ?_
     ·intro wx hx ρ hρ hs hf; have hρc := hρ.const; have hρf := hρ.func
      obtain ⟨fx6, -⟩ := hf; rw [qs6] at fx6
      clear hs
      clear HCS HVS qs0 qs4 qs6
      refine SB.run_plain ?_
      obtain ⟨b0, b1, b2, b3, b4, b5⟩ := hX6 _ hx
      unfold SB.runs
      go_simp
      exact SB.detK.mk
     refine SB.sure_wild (js := [(5, 18), (6, 19)]) (ts := []) (gd := none) (bs := []) (cs := [gA]) (SB.place_at HVS.out (k := 7) rfl) (by rw [HCS.out]; kernel_rfl) (by rw [HCS.out]; kernel_rfl) rfl ?_ ?_
     ·intro wx hx ρ hρ hs hf; have hρc := hρ.const; have hρf := hρ.func; obtain ⟨sn5, sn6, -⟩ := hs
      rw [SB.place_at HVS.out (k := 5) rfl] at sn5; replace sn5 : ρ (.tmp 18) = _ := sn5
      rw [SB.place_at HVS.out (k := 6) rfl] at sn6; replace sn6 : ρ (.tmp 19) = _ := sn6
      clear hf
      clear HCS HVS qs0 qs4 qs6
      refine SB.run_plain ?_
      refine SB.op_callv rfl sn5 Try.call84 (map_one sn6) ?_
      refine Calls.mono (do_next (.int .i64 x0) (.int .i64 x1) (.int .u64 x2) (.int .u64 x3) (.slice x4 x5 x6) (.slice x7 x8 x9) gA gL r R m wx (hD5.ext hx.ext.drawn)) ?_
      rintro e w' ⟨rfl, hD7, hB7⟩
      exact .inl ⟨_, rfl, .ofB hB7 (by simp), rfl, hD7⟩
     refine SB.sure_det (js := [(7, 20)]) (ts := []) (gd := none) (bs := [gA, gO]) (SB.place_at HVS.out (k := 8) rfl) (by rw [HCS.out]; kernel_rfl) (by rw [HCS.out]; kernel_rfl) ?_ ?_
     ·intro wx hx ρ hρ hs hf; have hρc := hρ.const; have hρf := hρ.func; obtain ⟨sn7, -⟩ := hs
      rw [SB.place_at HVS.out (k := 7) rfl] at sn7; replace sn7 : (ρ (.tmp 20)) = .agg #[.int .u64 r.n, .slice r.A r.k r.c, .bool r.fail] ∧ DoAt m wx gA gL R := sn7
      clear hf
      clear HCS HVS qs0 qs4 qs6
      refine SB.run_plain ?_
      obtain ⟨e7, -⟩ := sn7
      unfold SB.runs
      go_simp
      exact SB.detK.mk
     refine SB.sure_det (js := [(4, 17), (8, 21)]) (ts := []) (gd := none) (bs := [gA, gO]) (SB.place_at HVS.out (k := 9) rfl) (by rw [HCS.out]; kernel_rfl) (by rw [HCS.out]; kernel_rfl) ?_ ?_
     ·intro wx hx ρ hρ hs hf; have hρc := hρ.const; have hρf := hρ.func; obtain ⟨sn4, sn8, -⟩ := hs
      rw [SB.place_at HVS.out (k := 4) rfl] at sn4; replace sn4 : ρ (.tmp 17) = _ := sn4
      rw [SB.place_at HVS.out (k := 8) rfl] at sn8; replace sn8 : ρ (.tmp 21) = _ := sn8
      clear hf
      clear HCS HVS qs0 qs4 qs6
      refine SB.run_plain ?_
      unfold SB.runs
      go_simp
      exact SB.detK.mk
     refine SB.sure_det (js := []) (ts := [4]) (gd := none) (bs := [gA]) (SB.place_at HVS.out (k := 10) rfl) (by rw [HCS.out]; kernel_rfl) (by rw [HCS.out]; kernel_rfl) ?_ ?_
     ·intro wx hx ρ hρ hs hf; have hρc := hρ.const; have hρf := hρ.func
      obtain ⟨fx4, -⟩ := hf; rw [qs4] at fx4
      clear hs
      clear HCS HVS qs0 qs4 qs6
      refine SB.run_plain ?_
      unfold SB.runs
      go_simp
      exact SB.detK.mk
     refine SB.sure_wild (js := [(2, 15), (7, 20), (10, 23)]) (ts := []) (gd := none) (bs := [gA]) (cs := [gO]) (SB.place_at HVS.out (k := 11) rfl) (by rw [HCS.out]; kernel_rfl) (by rw [HCS.out]; kernel_rfl) rfl ?_ ?_
     ·intro wx hx ρ hρ hs hf; have hρc := hρ.const; have hρf := hρ.func; obtain ⟨sn2, sn7, sn10, -⟩ := hs
      rw [SB.place_at HVS.out (k := 2) rfl] at sn2; replace sn2 : ρ (.tmp 15) = _ := sn2
      rw [SB.place_at HVS.out (k := 7) rfl] at sn7; replace sn7 : (ρ (.tmp 20)) = .agg #[.int .u64 r.n, .slice r.A r.k r.c, .bool r.fail] ∧ DoAt m wx gA gL R := sn7
      rw [SB.place_at HVS.out (k := 10) rfl] at sn10; replace sn10 : ρ (.tmp 23) = _ := sn10
      clear hf
      clear HCS HVS qs0 qs4 qs6
      refine SB.run_plain ?_
      obtain ⟨-, hD7⟩ := sn7
      have z2 := hX2 _ _ hx (by simp [ng])
      have hg := hx.heap HG5.out (by simp [ng])
      have f2 : wx.frozen? ⟨gO, 2, none⟩ = false := by simp [World.frozen?, hg]
      unfold SB.runs
      go_simp
      exact ⟨.ofB ((ExtB.refl _ _).set _ _) (by simp), hD7.away ((ExtB.refl _ _).set _ _) (Ne.symm ng) ngL nm, by simp [World.setCell, Array.getElem?_modify, hg]⟩
     exact trivial
    case hend =>
     intro xs wx hx hg hq
     have gk0 : xs 0 = _ := SB.goods_get hg (i := 0) (j := 0) (d := 13) rfl
     have gk1 : xs 1 = _ := SB.goods_get hg (i := 1) (j := 1) (d := 14) rfl
     have gk2 : xs 2 = _ := SB.goods_get hg (i := 2) (j := 2) (d := 15) rfl
     have gk3 : xs 3 = _ := SB.goods_get hg (i := 3) (j := 3) (d := 16) rfl
     have gk4 : xs 4 = _ := SB.goods_get hg (i := 4) (j := 4) (d := 17) rfl
     have gk5 : xs 5 = _ := SB.goods_get hg (i := 5) (j := 5) (d := 18) rfl
     have gk6 : xs 6 = _ := SB.goods_get hg (i := 6) (j := 6) (d := 19) rfl
     have gk7 : (xs 7) = .agg #[.int .u64 r.n, .slice r.A r.k r.c, .bool r.fail] ∧ DoAt m wx gA gL R := SB.goods_get hg (i := 7) (j := 7) (d := 20) rfl
     have gk8 : xs 8 = _ := SB.goods_get hg (i := 8) (j := 8) (d := 21) rfl
     have gk9 : xs 9 = _ := SB.goods_get hg (i := 9) (j := 9) (d := 22) rfl
     have gk10 : xs 10 = _ := SB.goods_get hg (i := 10) (j := 10) (d := 23) rfl
     obtain ⟨-, gk11⟩ : ∃ v : Value, DoAt m wx gA gL R ∧ wx.heap[gO]? = some (.cells #[.int .i64 0, .bool false, .int .i64 ((j : Int) + 1), .int .u64 (lineSum rs j), .slice none 0 0] 46 (0, 0)) := hq 11 (by decide) (by kernel_rfl)
     clear hg hq
     simp only [putAll, gk0, gk1, gk2, gk3, gk4, gk5, gk6, gk8, gk9, gk10]
     clear gk0 gk1 gk2 gk3 gk4 gk5 gk6 gk8 gk9 gk10
     generalize xs 7 = vx7 at gk7 ⊢
     clear xs
     simp only [Act.put, List.setIfInBounds_toArray, List.set_cons_zero, List.set_cons_succ, List.drop_succ_cons, List.drop_zero]
     obtain ⟨e7, -⟩ := gk7
     obtain ⟨hD8, hg8⟩ := gk11
     subst e7
     have q3 : wx.cell? ⟨gO, 3, none⟩ = some (.int .u64 (lineSum rs j)) := by simp [World.cell?, hg8]
     have f3 : wx.frozen? ⟨gO, 3, none⟩ = false := by simp [World.frozen?, hg8]
     go_wp2
     rw [lineSum_step hR]
     obtain ⟨hR1, hR2⟩ := drop_step hR
     have hx8 : SB.ExtS [gA, gO] W5.drew wx := hx
     clear hx
     subst hgO
     go_roundw
     case rel => exact ⟨j + 1, by omega, by omega, by go_num, by rw [hR1]; exact hD8.away ((ExtB.refl _ _).set _ _) (Ne.symm ng) ngL nm, by simp [World.setCell, Array.getElem?_modify, hg8], by
      rw [Below.heap_setCell _ _ _ _ (by simp)]; exact hx8.heap HG6.out (by simp; omega), (extB_of_S HB5.out hx8 (by omega)).trans_set (by omega)⟩
     case measure => simp [intOf]; omega
  ·obtain rfl : j = n := by omega
   have d0 : wr.cell? ⟨w.heap.size + 1, 0, none⟩ = some (.int .i64 0) := by simp [World.cell?, hg4]
   have d1 : wr.cell? ⟨w.heap.size + 1, 1, none⟩ = some (.bool false) := by simp [World.cell?, hg4]
   have d2 : wr.cell? ⟨w.heap.size + 1, 2, none⟩ = some (.int .i64 j) := by simp [World.cell?, hg4]
   have d3 : wr.cell? ⟨w.heap.size + 1, 3, none⟩ = some (.int .u64 (lineSum rs j)) := by simp [World.cell?, hg4]
   have d4 : wr.cell? ⟨w.heap.size + 1, 4, none⟩ = some (.slice none 0 0) := by simp [World.cell?, hg4]
   have e0 : wr.cell? ⟨w.heap.size, 0, none⟩ = some (.int .i64 0) := by simp [World.cell?, hg3, outZero]
   have e1 : wr.cell? ⟨w.heap.size, 1, none⟩ = some (.bool false) := by simp [World.cell?, hg3, outZero]
   have e2 : wr.cell? ⟨w.heap.size, 2, none⟩ = some (.int .i64 0) := by simp [World.cell?, hg3, outZero]
   have e3 : wr.cell? ⟨w.heap.size, 3, none⟩ = some (.int .u64 0) := by simp [World.cell?, hg3, outZero]
   have e4 : wr.cell? ⟨w.heap.size, 4, none⟩ = some (.slice none 0 0) := by simp [World.cell?, hg3, outZero]
   have f0 : wr.frozen? ⟨w.heap.size, 0, none⟩ = false := by simp [World.frozen?, hg3]
   have f1 : wr.frozen? ⟨w.heap.size, 1, none⟩ = false := by simp [World.frozen?, hg3]
   have f2 : wr.frozen? ⟨w.heap.size, 2, none⟩ = false := by simp [World.frozen?, hg3]
   have f3 : wr.frozen? ⟨w.heap.size, 3, none⟩ = false := by simp [World.frozen?, hg3]
   have f4 : wr.frozen? ⟨w.heap.size, 4, none⟩ = false := by simp [World.frozen?, hg3]
   have HB := Lib.hid hB
   clear hB hg4 hg3 hD hdo cl cl2 hgl h3 h4 hW
   go_wp2
   refine bodyPost_ret (v := .agg #[.int .i64 0, .bool false, .int .i64 j, .int .u64 (lineSum rs j), .slice none 0 0]) (by simp [results, Try.results77, go_sem, e0, e1, e2, e3, e4]) rfl ⟨by simp only [OutN.cells], ?_⟩
   exact ((((HB.out.trans_set (Nat.le_refl _)).trans_set (Nat.le_refl _)).trans_set (Nat.le_refl _)).trans_set (Nat.le_refl _)).trans_set (Nat.le_refl _)
end Go.Proofs.Ytennnhfaghdeoaa
