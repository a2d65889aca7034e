import Derived.Test.YtjokaginolpbeaaEpochSafePartA
import Derived.Lib.Hide
import Derived.Laws.MakeOwn
import Derived.Lib.AppendZeros
namespace Go.Proofs.Ytjokaginolpbeaa
open Go.RowKit

/-! disk.turn: one stream is turned. -/
theorem two_boxes7 (w : World) (o0 o1 : Obj) :
  Ext w ((w.alloc o0).alloc o1) ∧ ((w.alloc o0).alloc o1).heap[w.heap.size]? = some o0 ∧ ((w.alloc o0).alloc o1).heap[w.heap.size + 1]? = some o1 := by
 refine ⟨(((Below.refl _ w).alloc (Nat.le_refl _) _).alloc (by simp) _), ?_, ?_⟩
 ·rw [Below.heap_alloc _ _ _ (by first | (simp; omega) | simp)]
  simpa using heap_alloc_new w o0
 ·simpa using heap_alloc_new (w.alloc o0) o1
theorem heap_set_congr {w w' : World} {g i : Nat} {u : Value} (h : w.heap[g]? = w'.heap[g]?) : (w.setCell ⟨g, i, none⟩ u).heap[g]? = (w'.setCell ⟨g, i, none⟩ u).heap[g]? := by
 simp [World.setCell, Array.getElem?_modify, h]
theorem isB_row0 {i n0 n1 : Nat} (h : i < n0) : isB 0 i n0 n1 = true := by simp [isB, h]
theorem isB_row1 {i n0 n1 : Nat} (h : i < n1) : isB 1 i n0 n1 = true := by simp [isB, h]
set_option maxRecDepth 100000 in
set_option maxHeartbeats 1000000 in
/-- no such stream -/
theorem turn_no (R : Int) (A0 A1 : Option Addr) (n0 c0 n1 c1 : Nat) (row i : Int) (f : FuncId) (caps : Array Value) (w : World) (hno : isB row i n0 n1 = false) :
  Calls Try.prog 132 #[.agg #[.int .u64 R, .slice A0 n0 c0, .slice A1 n1 c1], .int .i64 row, .int .i64 i, .func (.func f) #[] caps] w fun e w' => e = .returned (.tuple #[.agg #[.int .u64 R, .slice A0 n0 c0, .slice A1 n1 c1], .int .i64 1]) ∧ Ext w w' := by
 go_enter Try.func132, Try.ntmps132
 go_upto_region 1 with (fail)
 obtain ⟨hW, hE, hO⟩ := two_boxes7 w (.cells #[.int .u64 R, .slice A0 n0 c0, .slice A1 n1 c1] 49) (.cells #[.int .u64 0, .slice none 0 0, .slice none 0 0] 49)
 generalize (w.alloc (.cells #[.int .u64 R, .slice A0 n0 c0, .slice A1 n1 c1] 49)).alloc (.cells #[.int .u64 0, .slice none 0 0, .slice none 0 0] 49) = W at *
 have e0 : W.cell? ⟨w.heap.size, 0, none⟩ = some (.int .u64 R) := by simp [World.cell?, hE]
 have e1 : W.cell? ⟨w.heap.size, 1, none⟩ = some (.slice A0 n0 c0) := by simp [World.cell?, hE]
 have e2 : W.cell? ⟨w.heap.size, 2, none⟩ = some (.slice A1 n1 c1) := by simp [World.cell?, hE]
 go_wp2_with fail
 refine (is_any7 R A0 A1 n0 c0 n1 c1 row i _).mono ?_
 rw [hno]
 rintro e w1 ⟨rfl, hx1⟩
 replace hE := heap_ext hE hx1
 replace hO := heap_ext hO hx1
 replace hW := hW.trans hx1
 clear e0 e1 e2 hx1
 have e0 : w1.cell? ⟨w.heap.size, 0, none⟩ = some (.int .u64 R) := by simp [World.cell?, hE]
 have e1 : w1.cell? ⟨w.heap.size, 1, none⟩ = some (.slice A0 n0 c0) := by simp [World.cell?, hE]
 have e2 : w1.cell? ⟨w.heap.size, 2, none⟩ = some (.slice A1 n1 c1) := by simp [World.cell?, hE]
 have d0 : w1.cell? ⟨w.heap.size + 1, 0, none⟩ = some (.int .u64 0) := by simp [World.cell?, hO]
 have df0 : w1.frozen? ⟨w.heap.size + 1, 0, none⟩ = false := by simp [World.frozen?, hO]
 have d1 : w1.cell? ⟨w.heap.size + 1, 1, none⟩ = some (.slice none 0 0) := by simp [World.cell?, hO]
 have df1 : w1.frozen? ⟨w.heap.size + 1, 1, none⟩ = false := by simp [World.frozen?, hO]
 have d2 : w1.cell? ⟨w.heap.size + 1, 2, none⟩ = some (.slice none 0 0) := by simp [World.cell?, hO]
 have df2 : w1.frozen? ⟨w.heap.size + 1, 2, none⟩ = false := by simp [World.frozen?, hO]
 clear hE hO
 go_wp2
 refine bodyPost_ret (v := .tuple #[.agg #[.int .u64 R, .slice A0 n0 c0, .slice A1 n1 c1], .int .i64 1]) (by simp [results, Try.results132, go_sem, d0, d1, d2]) rfl ⟨rfl, ?_⟩
 exact setAll_ext (g := w.heap.size + 1) (vs := [.int .u64 R, .slice A0 n0 c0, .slice A1 n1 c1]) (i := 0) hW (by omega)
set_option maxRecDepth 100000 in
set_option maxHeartbeats 4000000 in
theorem turn_row0 (R : Int) (A0 A1 : Option Addr) (n0 c0 n1 c1 : Nat) (i : Nat) (l : List St) (s : St) (f : FuncId) (caps : Array Value) (G : St → Prop) (w : World) (hrow : RowV w A0 n0 c0 l) (hs : l[i]? = some s) (hn0 : n0 ≤ 65536) (hn1 : n1 ≤ 65536)
  (hcall : ∀ (args : Array Value) (w : World), (callFunc f args).run Try.prog w = .ok (.enter f args) w)
  (hby : ∀ W, Ext w W → Calls Try.prog f (#[.agg #[.slice s.D s.q s.cd, .int .i64 s.k]] ++ caps) W fun e W' => ∃ s' : St, e = .returned (.agg #[.slice s'.D s'.q s'.cd, .int .i64 s'.k]) ∧ G s' ∧ StOK W' s' ∧ (s'.d ≠ [] → ∀ a, s'.D = some a → a.block < w.heap.size ∨ W.heap.size ≤ a.block) ∧ Ext W W') :
  Calls Try.prog 132 #[.agg #[.int .u64 R, .slice A0 n0 c0, .slice A1 n1 c1], .int .i64 0, .int .i64 i, .func (.func f) #[] caps] w fun e w' =>
   ∃ (A' : Option Addr) (c' : Nat) (s' : St), e = .returned (.tuple #[.agg #[.int .u64 R, .slice A' n0 c', .slice A1 n1 c1], .int .i64 0]) ∧ RowV w' A' n0 c' (l.set i s') ∧ G s' ∧ Ext w w' := by
 have hil : i < l.length := (List.getElem?_eq_some_iff.1 hs).1
 have hlen := hrow.len
 have hin : i < n0 := by omega
 have hini : (i : Int) < (n0 : Int) := by omega
 go_enter Try.func132, Try.ntmps132
 go_upto_region 1 with (fail)
 obtain ⟨hW, hE, hO⟩ := two_boxes7 w (.cells #[.int .u64 R, .slice A0 n0 c0, .slice A1 n1 c1] 49) (.cells #[.int .u64 0, .slice none 0 0, .slice none 0 0] 49)
 generalize (w.alloc (.cells #[.int .u64 R, .slice A0 n0 c0, .slice A1 n1 c1] 49)).alloc (.cells #[.int .u64 0, .slice none 0 0, .slice none 0 0] 49) = W at *
 have e0 : W.cell? ⟨w.heap.size, 0, none⟩ = some (.int .u64 R) := by simp [World.cell?, hE]
 have e1 : W.cell? ⟨w.heap.size, 1, none⟩ = some (.slice A0 n0 c0) := by simp [World.cell?, hE]
 have e2 : W.cell? ⟨w.heap.size, 2, none⟩ = some (.slice A1 n1 c1) := by simp [World.cell?, hE]
 go_wp2_with fail
 refine (is_any7 R A0 A1 n0 c0 n1 c1 0 i _).mono ?_
 rw [isB_row0 hin]
 rintro e w1 ⟨rfl, hx1⟩
 replace hE := heap_ext hE hx1
 replace hO := heap_ext hO hx1
 replace hW := hW.trans hx1
 clear e0 e1 e2 hx1
 have e0 : w1.cell? ⟨w.heap.size, 0, none⟩ = some (.int .u64 R) := by simp [World.cell?, hE]
 have e1 : w1.cell? ⟨w.heap.size, 1, none⟩ = some (.slice A0 n0 c0) := by simp [World.cell?, hE]
 have e2 : w1.cell? ⟨w.heap.size, 2, none⟩ = some (.slice A1 n1 c1) := by simp [World.cell?, hE]
 have hsz1 : w.heap.size + 1 < w1.heap.size := (Array.getElem?_eq_some_iff.1 hO).1
 go_wp2_with fail
 refine (clone_row A0 n0 c0 l _ (hrow.ext hW) (by omega)).mono ?_
 rintro e w2 ⟨v, rfl, hown, hx2⟩
 obtain ⟨gc, cc, rfl, hgb, hglt, hncc, -, -, -, -, -⟩ := hown.at hs
 replace hE := heap_ext hE hx2
 replace hO := heap_ext hO hx2
 replace hW := hW.trans hx2
 clear e0 e1 e2 hx2
 have e0 : w2.cell? ⟨w.heap.size, 0, none⟩ = some (.int .u64 R) := by simp [World.cell?, hE]
 have ef0 : w2.frozen? ⟨w.heap.size, 0, none⟩ = false := by simp [World.frozen?, hE]
 have e1 : w2.cell? ⟨w.heap.size, 1, none⟩ = some (.slice A0 n0 c0) := by simp [World.cell?, hE]
 have ef1 : w2.frozen? ⟨w.heap.size, 1, none⟩ = false := by simp [World.frozen?, hE]
 have e2 : w2.cell? ⟨w.heap.size, 2, none⟩ = some (.slice A1 n1 c1) := by simp [World.cell?, hE]
 have ef2 : w2.frozen? ⟨w.heap.size, 2, none⟩ = false := by simp [World.frozen?, hE]
 go_upto_region 4 with (fail)
 have hE3 : (w2.setCell ⟨w.heap.size, 1, none⟩ (.slice (some ⟨gc, 0, none⟩) n0 cc)).heap[w.heap.size]? = some (.cells #[.int .u64 R, .slice (some ⟨gc, 0, none⟩) n0 cc, .slice A1 n1 c1] 49 (0, 0)) := heap_setCell_at hE
 have hO3 : (w2.setCell ⟨w.heap.size, 1, none⟩ (.slice (some ⟨gc, 0, none⟩) n0 cc)).heap[w.heap.size + 1]? = _ := (Below.heap_setCell _ _ _ _ (by simp)).trans hO
 have hW3 : Ext w (w2.setCell ⟨w.heap.size, 1, none⟩ (.slice (some ⟨gc, 0, none⟩) n0 cc)) := hW.setCell (Nat.le_refl _) _
 have hown3 : OwnR (w2.setCell ⟨w.heap.size, 1, none⟩ (.slice (some ⟨gc, 0, none⟩) n0 cc)) w1.heap.size (.slice (some ⟨gc, 0, none⟩) n0 cc) n0 l :=
  hown.other (by simp; omega) fun x hx => (hrow.ok x hx).ext hW3
 clear e0 e1 e2 ef0 ef1 ef2 hE hO hW hown
 generalize w2.setCell ⟨w.heap.size, 1, none⟩ (.slice (some ⟨gc, 0, none⟩) n0 cc) = W3 at *
 obtain ⟨g', c', hgc, -, hgl3', -, s0, s1, f0, f1, hset⟩ := hown3.at hs
 obtain ⟨rfl, rfl⟩ : gc = g' ∧ cc = c' := by simpa using hgc
 clear hgc
 have hgl3 : gc < W3.heap.size := hgl3'
 have hw0 : w.heap.size + 1 < gc := by omega
 have ne1 : ¬ gc = w.heap.size := by omega
 have ne2 : ¬ gc = w.heap.size + 1 := by omega
 have ne3 : ¬ w.heap.size = gc := by omega
 have ne4 : ¬ w.heap.size + 1 = gc := by omega
 have hX : ∀ wx, Ext W3 wx → wx.cell? ⟨w.heap.size, 1, none⟩ = some (.slice (some ⟨gc, 0, none⟩) n0 cc) ∧ wx.cell? ⟨gc, i * 2, none⟩ = some (.slice s.D s.q s.cd) ∧ wx.cell? ⟨gc, i * 2 + 1, none⟩ = some (.int .i64 s.k) ∧ Ext w wx := fun wx hx =>
  ⟨hx.cell (by simp [World.cell?, hE3]), hx.cell s0, hx.cell s1, hW3.trans hx⟩
 obtain ⟨gE, hgE⟩ : ∃ g, g = w.heap.size := ⟨_, rfl⟩
 refine' SB.wp_region_sure (gx := []) (Pn := fun _ _ => False) ⟨((some 24, [], none) :: (some 25, [], none) :: (some 26, [1, 0], none) :: (some 27, [2], none) :: (some 28, [], none) :: (some 29, [], none) :: (some 30, [], none) :: (some 31, [], none) :: (some 32, [7, 6], none) :: (some 33, [8], none) :: (some 34, [], none) :: (some 35, [9, 10], none) :: (some 36, [11], none) :: (some 37, [5, 12], none) :: (some 38, [3, 4, 0, 1, 2, 3, 4, 5, 6, 7, 8, 9, 10, 11, 12, 13], none) :: (none, [14, 13, 13, 0, 1, 2, 3, 4, 5, 6, 7, 8, 9, 10, 11, 12, 13], none) :: []), (0 :: 0 :: 3 :: 7 :: 0 :: 0 :: 0 :: 0 :: 192 :: 448 :: 0 :: 1984 :: 4032 :: 8160 :: 16383 :: 32767 :: []), (none :: none :: none :: none :: none :: none :: none :: none :: none :: none :: none :: none :: none :: some [] :: []), []⟩ 14 40 ((0, 24) :: (1, 25) :: (2, 26) :: (3, 27) :: (4, 28) :: (5, 29) :: (6, 30) :: (7, 31) :: (8, 32) :: (9, 33) :: (10, 34) :: (11, 35) :: (12, 36) :: (13, 37) :: []) ((0, 24) :: (1, 25) :: (2, 26) :: (3, 27) :: (4, 28) :: (5, 29) :: (6, 30) :: (7, 31) :: (8, 32) :: (9, 33) :: (10, 34) :: (11, 35) :: (12, 36) :: (13, 37) :: []) (.det _ :: .det _ :: .det _ :: .det _ :: .det _ :: .det _ :: .det _ :: .det _ :: .det _ :: .det _ :: .det _ :: .det _ :: .det _ :: SB.Good.of (fun v w => ∃ s' : St, v = .agg #[.slice s'.D s'.q s'.cd, .int .i64 s'.k] ∧ G s' ∧ StOK w s' ∧ (s'.d ≠ [] → ∀ a, s'.D = some a → a.block ≠ gc ∧ a.block ≠ gE ∧ a.block ≠ gE + 1)) (fun v w w' h hx => let ⟨s', e, hg, ho, hf⟩ := h; ⟨s', e, hg, ho.ext hx, hf⟩) :: []) (by kernel_rfl) ?hpan (by kernel_rfl) (by kernel_rfl) rfl (by kernel_rfl) (by kernel_rfl) rfl ?hone ?hend
 case hpan =>
  intro _ _ _ _ h; exact h.elim
 case hone =>
  intro CS frS VS hCS ha hV
  have qs1 := slot_val (t := 1) ha rfl
  simp only [List.getElem_toArray, List.getElem_cons_succ, List.getElem_cons_zero] at qs1
  have qs2 := slot_val (t := 2) ha rfl
  simp only [List.getElem_toArray, List.getElem_cons_succ, List.getElem_cons_zero] at qs2
  have qs3 := slot_val (t := 3) ha rfl
  simp only [List.getElem_toArray, List.getElem_cons_succ, List.getElem_cons_zero] at qs3
  have qs4 := slot_val (t := 4) ha rfl
  simp only [List.getElem_toArray, List.getElem_cons_succ, List.getElem_cons_zero] at qs4
  have HCS := Lib.hid hCS
  have HVS := Lib.hid hV
  clear ha hCS hV
  refine SB.sure_det (js := []) (ts := [1]) (gd := none) (bs := []) (SB.place_at HVS.out (k := 0) rfl) (by rw [HCS.out]; kernel_rfl) (by rw [HCS.out]; kernel_rfl) ?_ ?_
  ·intro wx hx ρ hρ hs hf; have hρc := hρ.const; have hρf := hρ.func
   obtain ⟨fx1, -⟩ := hf; rw [qs1] at fx1
   clear hs
   clear HCS HVS qs1 qs2 qs3 qs4
   refine SB.run_plain ?_
   refine SB.op_move rfl fx1 ?_
   exact SB.detK.mk
  refine SB.sure_det (js := []) (ts := [4]) (gd := none) (bs := []) (SB.place_at HVS.out (k := 1) rfl) (by rw [HCS.out]; kernel_rfl) (by rw [HCS.out]; kernel_rfl) ?_ ?_
  ·intro wx hx ρ hρ hs hf; have hρc := hρ.const; have hρf := hρ.func
   obtain ⟨fx4, -⟩ := hf; rw [qs4] at fx4
   clear hs
   clear HCS HVS qs1 qs2 qs3 qs4
   refine SB.run_plain ?_
   unfold SB.runs
   go_simp
   exact SB.detK.mk
  refine SB.sure_det (js := [(1, 25), (0, 24)]) (ts := []) (gd := none) (bs := []) (SB.place_at HVS.out (k := 2) rfl) (by rw [HCS.out]; kernel_rfl) (by rw [HCS.out]; kernel_rfl) ?_ ?_
  ·intro wx hx ρ hρ hs hf; have hρc := hρ.const; have hρf := hρ.func; obtain ⟨sn1, sn0, -⟩ := hs
   rw [SB.place_at HVS.out (k := 1) rfl] at sn1; replace sn1 : ρ (.tmp 25) = _ := sn1
   rw [SB.place_at HVS.out (k := 0) rfl] at sn0; replace sn0 : ρ (.tmp 24) = _ := sn0
   clear hf
   clear HCS HVS qs1 qs2 qs3 qs4
   refine SB.run_plain ?_
   unfold SB.runs
   go_simp
   exact SB.detK.mk
  refine SB.sure_det (js := [(2, 26)]) (ts := []) (gd := none) (bs := []) (SB.place_at HVS.out (k := 3) rfl) (by rw [HCS.out]; kernel_rfl) (by rw [HCS.out]; kernel_rfl) ?_ ?_
  ·intro wx hx ρ hρ hs hf; have hρc := hρ.const; have hρf := hρ.func; obtain ⟨sn2, -⟩ := hs
   rw [SB.place_at HVS.out (k := 2) rfl] at sn2; replace sn2 : ρ (.tmp 26) = _ := sn2
   clear hf
   clear HCS HVS qs1 qs2 qs3 qs4
   refine SB.run_plain ?_
   obtain ⟨p0, p1, p2, pE⟩ := hX wx hx.ext.drawn
   unfold SB.runs
   go_simp
   exact SB.detK.mk
  refine SB.sure_det (js := []) (ts := [2]) (gd := none) (bs := []) (SB.place_at HVS.out (k := 4) rfl) (by rw [HCS.out]; kernel_rfl) (by rw [HCS.out]; kernel_rfl) ?_ ?_
  ·intro wx hx ρ hρ hs hf; have hρc := hρ.const; have hρf := hρ.func
   obtain ⟨fx2, -⟩ := hf; rw [qs2] at fx2
   clear hs
   clear HCS HVS qs1 qs2 qs3 qs4
   refine SB.run_plain ?_
   refine SB.op_move rfl fx2 ?_
   exact SB.detK.mk
  refine SB.sure_det (js := []) (ts := [3]) (gd := none) (bs := []) (SB.place_at HVS.out (k := 5) rfl) (by rw [HCS.out]; kernel_rfl) (by rw [HCS.out]; kernel_rfl) ?_ ?_
  ·intro wx hx ρ hρ hs hf; have hρc := hρ.const; have hρf := hρ.func
   obtain ⟨fx3, -⟩ := hf; rw [qs3] at fx3
   clear hs
   clear HCS HVS qs1 qs2 qs3 qs4
   refine SB.run_plain ?_
   refine SB.op_move rfl fx3 ?_
   exact SB.detK.mk
  refine SB.sure_det (js := []) (ts := [1]) (gd := none) (bs := []) (SB.place_at HVS.out (k := 6) rfl) (by rw [HCS.out]; kernel_rfl) (by rw [HCS.out]; kernel_rfl) ?_ ?_
  ·intro wx hx ρ hρ hs hf; have hρc := hρ.const; have hρf := hρ.func
   obtain ⟨fx1, -⟩ := hf; rw [qs1] at fx1
   clear hs
   clear HCS HVS qs1 qs2 qs3 qs4
   refine SB.run_plain ?_
   refine SB.op_move rfl fx1 ?_
   exact SB.detK.mk
  refine SB.sure_det (js := []) (ts := [4]) (gd := none) (bs := []) (SB.place_at HVS.out (k := 7) rfl) (by rw [HCS.out]; kernel_rfl) (by rw [HCS.out]; kernel_rfl) ?_ ?_
  ·intro wx hx ρ hρ hs hf; have hρc := hρ.const; have hρf := hρ.func
   obtain ⟨fx4, -⟩ := hf; rw [qs4] at fx4
   clear hs
   clear HCS HVS qs1 qs2 qs3 qs4
   refine SB.run_plain ?_
   unfold SB.runs
   go_simp
   exact SB.detK.mk
  refine SB.sure_det (js := [(7, 31), (6, 30)]) (ts := []) (gd := none) (bs := []) (SB.place_at HVS.out (k := 8) rfl) (by rw [HCS.out]; kernel_rfl) (by rw [HCS.out]; kernel_rfl) ?_ ?_
  ·intro wx hx ρ hρ hs hf; have hρc := hρ.const; have hρf := hρ.func; obtain ⟨sn7, sn6, -⟩ := hs
   rw [SB.place_at HVS.out (k := 7) rfl] at sn7; replace sn7 : ρ (.tmp 31) = _ := sn7
   rw [SB.place_at HVS.out (k := 6) rfl] at sn6; replace sn6 : ρ (.tmp 30) = _ := sn6
   clear hf
   clear HCS HVS qs1 qs2 qs3 qs4
   refine SB.run_plain ?_
   unfold SB.runs
   go_simp
   exact SB.detK.mk
  refine SB.sure_det (js := [(8, 32)]) (ts := []) (gd := none) (bs := []) (SB.place_at HVS.out (k := 9) rfl) (by rw [HCS.out]; kernel_rfl) (by rw [HCS.out]; kernel_rfl) ?_ ?_
  ·intro wx hx ρ hρ hs hf; have hρc := hρ.const; have hρf := hρ.func; obtain ⟨sn8, -⟩ := hs
   rw [SB.place_at HVS.out (k := 8) rfl] at sn8; replace sn8 : ρ (.tmp 32) = _ := sn8
   clear hf
   clear HCS HVS qs1 qs2 qs3 qs4
   refine SB.run_plain ?_
   obtain ⟨p0, p1, p2, pE⟩ := hX wx hx.ext.drawn
   unfold SB.runs
   go_simp
   exact SB.detK.mk
  refine SB.sure_det (js := []) (ts := [2]) (gd := none) (bs := []) (SB.place_at HVS.out (k := 10) rfl) (by rw [HCS.out]; kernel_rfl) (by rw [HCS.out]; kernel_rfl) ?_ ?_
  ·intro wx hx ρ hρ hs hf; have hρc := hρ.const; have hρf := hρ.func
   obtain ⟨fx2, -⟩ := hf; rw [qs2] at fx2
   clear hs
   clear HCS HVS qs1 qs2 qs3 qs4
   refine SB.run_plain ?_
   refine SB.op_move rfl fx2 ?_
   exact SB.detK.mk
  refine SB.sure_det (js := [(9, 33), (10, 34)]) (ts := []) (gd := none) (bs := []) (SB.place_at HVS.out (k := 11) rfl) (by rw [HCS.out]; kernel_rfl) (by rw [HCS.out]; kernel_rfl) ?_ ?_
  ·intro wx hx ρ hρ hs hf; have hρc := hρ.const; have hρf := hρ.func; obtain ⟨sn9, sn10, -⟩ := hs
   rw [SB.place_at HVS.out (k := 9) rfl] at sn9; replace sn9 : ρ (.tmp 33) = _ := sn9
   rw [SB.place_at HVS.out (k := 10) rfl] at sn10; replace sn10 : ρ (.tmp 34) = _ := sn10
   clear hf
   clear HCS HVS qs1 qs2 qs3 qs4
   refine SB.run_plain ?_
   unfold SB.runs
   go_simp
   exact SB.detK.mk
  refine SB.sure_det (js := [(11, 35)]) (ts := []) (gd := none) (bs := []) (SB.place_at HVS.out (k := 12) rfl) (by rw [HCS.out]; kernel_rfl) (by rw [HCS.out]; kernel_rfl) ?_ ?_
  ·intro wx hx ρ hρ hs hf; have hρc := hρ.const; have hρf := hρ.func; obtain ⟨sn11, -⟩ := hs
   rw [SB.place_at HVS.out (k := 11) rfl] at sn11; replace sn11 : ρ (.tmp 35) = _ := sn11
   clear hf
   clear HCS HVS qs1 qs2 qs3 qs4
   refine SB.run_plain ?_
   obtain ⟨p0, p1, p2, pE⟩ := hX wx hx.ext.drawn
   unfold SB.runs
   go_simp
   exact SB.detK.mk
  refine SB.sure_op (js := [(5, 29), (12, 36)]) (ts := []) (gd := none) (bs := []) (SB.place_at HVS.out (k := 13) rfl) (by rw [HCS.out]; kernel_rfl) (by rw [HCS.out]; kernel_rfl) ?_ ?_
  ·intro wx hx ρ hρ hs hf; have hρc := hρ.const; have hρf := hρ.func; obtain ⟨sn5, sn12, -⟩ := hs
   rw [SB.place_at HVS.out (k := 5) rfl] at sn5; replace sn5 : ρ (.tmp 29) = _ := sn5
   rw [SB.place_at HVS.out (k := 12) rfl] at sn12; replace sn12 : ρ (.tmp 36) = _ := sn12
   clear hf
   clear HCS HVS qs1 qs2 qs3 qs4
   refine SB.run_plain ?_
   refine SB.op_callv rfl sn5 hcall (map_one sn12) ?_
   refine Calls.mono (hby wx (hX wx hx.ext.drawn).2.2.2) ?_
   rintro e w' ⟨s', rfl, hg, ho, hfar, hx5⟩
   have hsx := hx.ext.drawn.size
   exact .inl ⟨_, rfl, hx5, s', rfl, hg, ho, fun hd a ha => by rcases hfar hd a ha with h | h <;> omega⟩
  exact trivial
 case hend =>
  intro xs wx hx hg hq
  have gk0 : xs 0 = _ := SB.goods_get hg (i := 0) (j := 0) (d := 24) rfl
  have gk1 : xs 1 = _ := SB.goods_get hg (i := 1) (j := 1) (d := 25) rfl
  have gk2 : xs 2 = _ := SB.goods_get hg (i := 2) (j := 2) (d := 26) rfl
  have gk3 : xs 3 = _ := SB.goods_get hg (i := 3) (j := 3) (d := 27) rfl
  have gk4 : xs 4 = _ := SB.goods_get hg (i := 4) (j := 4) (d := 28) rfl
  have gk5 : xs 5 = _ := SB.goods_get hg (i := 5) (j := 5) (d := 29) rfl
  have gk6 : xs 6 = _ := SB.goods_get hg (i := 6) (j := 6) (d := 30) rfl
  have gk7 : xs 7 = _ := SB.goods_get hg (i := 7) (j := 7) (d := 31) rfl
  have gk8 : xs 8 = _ := SB.goods_get hg (i := 8) (j := 8) (d := 32) rfl
  have gk9 : xs 9 = _ := SB.goods_get hg (i := 9) (j := 9) (d := 33) rfl
  have gk10 : xs 10 = _ := SB.goods_get hg (i := 10) (j := 10) (d := 34) rfl
  have gk11 : xs 11 = _ := SB.goods_get hg (i := 11) (j := 11) (d := 35) rfl
  have gk12 : xs 12 = _ := SB.goods_get hg (i := 12) (j := 12) (d := 36) rfl
  have gk13 : ∃ s' : St, (xs 13) = .agg #[.slice s'.D s'.q s'.cd, .int .i64 s'.k] ∧ G s' ∧ StOK wx s' ∧ (s'.d ≠ [] → ∀ a, s'.D = some a → a.block ≠ gc ∧ a.block ≠ gE ∧ a.block ≠ gE + 1) := SB.goods_get hg (i := 13) (j := 13) (d := 37) rfl
  clear hg hq
  simp only [putAll, gk0, gk1, gk2, gk3, gk4, gk5, gk6, gk7, gk8, gk9, gk10, gk11, gk12]
  clear gk0 gk1 gk2 gk3 gk4 gk5 gk6 gk7 gk8 gk9 gk10 gk11 gk12
  generalize xs 13 = vx13 at gk13 ⊢
  clear xs
  simp only [Act.put, List.setIfInBounds_toArray, List.set_cons_zero, List.set_cons_succ, List.drop_succ_cons, List.drop_zero]
  obtain ⟨s', e', hg', hok', hfar⟩ := gk13
  subst e'
  subst hgE
  have hxx : Ext W3 wx := (SB.ExtS.ext hx).drawn
  have x0 := hxx.cell s0
  have x1 := hxx.cell s1
  have y0 : wx.frozen? ⟨gc, i * 2, none⟩ = false := by rw [hxx.frozen hgl3]; exact f0
  have y1 : wx.frozen? ⟨gc, i * 2 + 1, none⟩ = false := by rw [hxx.frozen hgl3]; exact f1
  have hE4 := heap_ext hE3 hxx
  have hO4 := heap_ext hO3 hxx
  have e0 : wx.cell? ⟨w.heap.size, 0, none⟩ = some (.int .u64 R) := by simp [World.cell?, hE4]
  have e1 : wx.cell? ⟨w.heap.size, 1, none⟩ = some (.slice (some ⟨gc, 0, none⟩) n0 cc) := by simp [World.cell?, hE4]
  have e2 : wx.cell? ⟨w.heap.size, 2, none⟩ = some (.slice A1 n1 c1) := by simp [World.cell?, hE4]
  have d0 : wx.cell? ⟨w.heap.size + 1, 0, none⟩ = some (.int .u64 0) := by simp [World.cell?, hO4]
  have df0 : wx.frozen? ⟨w.heap.size + 1, 0, none⟩ = false := by simp [World.frozen?, hO4]
  have d1 : wx.cell? ⟨w.heap.size + 1, 1, none⟩ = some (.slice none 0 0) := by simp [World.cell?, hO4]
  have df1 : wx.frozen? ⟨w.heap.size + 1, 1, none⟩ = false := by simp [World.frozen?, hO4]
  have d2 : wx.cell? ⟨w.heap.size + 1, 2, none⟩ = some (.slice none 0 0) := by simp [World.cell?, hO4]
  have df2 : wx.frozen? ⟨w.heap.size + 1, 2, none⟩ = false := by simp [World.frozen?, hO4]
  have hblk := hxx.block gc hgl3
  have hokx : ∀ x ∈ l, StOK wx x := fun x hx' => (hrow.ok x hx').ext (hW3.trans hxx)
  have hX4 := hW3.trans hxx
  clear hE3 hO3 hE4 hO4 hX hx hW3 hxx s0 s1 f0 f1 hown3
  go_wp2
  refine bodyPost_ret (v := .tuple #[.agg #[.int .u64 R, .slice (some ⟨gc, 0, none⟩) n0 cc, .slice A1 n1 c1], .int .i64 0]) (by simp [results, Try.results132, go_sem, d0, d1, d2]) rfl ?_
  have hlow : ∀ x ∈ l, x.d ≠ [] → ∀ a, x.D = some a → a.block ≠ gc ∧ a.block ≠ w.heap.size ∧ a.block ≠ w.heap.size + 1 := fun x hx hd a ha => by have := (hrow.ok x hx).low hd a ha; omega
  have hst : ∀ x, StOK wx x → (x.d ≠ [] → ∀ a, x.D = some a → a.block ≠ gc ∧ a.block ≠ w.heap.size ∧ a.block ≠ w.heap.size + 1) → StOK (setAll (w.heap.size + 1) 0 [.int .u64 R, .slice (some ⟨gc, 0, none⟩) n0 cc, .slice A1 n1 c1] ((wx.setCell ⟨gc, i * 2, none⟩ (.slice s'.D s'.q s'.cd)).setCell ⟨gc, i * 2 + 1, none⟩ (.int .i64 s'.k))) x := fun x h hf =>
   ((((h.set (fun hd a ha => (hf hd a ha).1) _).set (fun hd a ha => (hf hd a ha).1) _).set (fun hd a ha => (hf hd a ha).2.2) _).set (fun hd a ha => (hf hd a ha).2.2) _).set (fun hd a ha => (hf hd a ha).2.2) _
  have hnew := hset s' (setAll (w.heap.size + 1) 0 [.int .u64 R, .slice (some ⟨gc, 0, none⟩) n0 cc, .slice A1 n1 c1] ((wx.setCell ⟨gc, i * 2, none⟩ (.slice s'.D s'.q s'.cd)).setCell ⟨gc, i * 2 + 1, none⟩ (.int .i64 s'.k)))
   (fun x hx => by
    rcases List.mem_cons.1 hx with rfl | hx
    ·exact hst _ hok' hfar
    ·exact hst _ (hokx x hx) (hlow x hx))
   (by
    rw [setAll_other (by omega)]
    exact heap_set_congr (heap_set_congr hblk))
  obtain ⟨A', c', e', hr⟩ := hnew.form
  cases e'
  refine ⟨_, _, s', rfl, hr, hg', ?_⟩
  have hx5 : Ext w ((wx.setCell ⟨gc, i * 2, none⟩ (.slice s'.D s'.q s'.cd)).setCell ⟨gc, i * 2 + 1, none⟩ (.int .i64 s'.k)) := (hX4.setCell (show w.heap.size ≤ gc by omega) _).setCell (show w.heap.size ≤ gc by omega) _
  exact setAll_ext (g := w.heap.size + 1) (vs := [.int .u64 R, .slice (some ⟨gc, 0, none⟩) n0 cc, .slice A1 n1 c1]) (i := 0) hx5 (by omega)
set_option maxRecDepth 100000 in
set_option maxHeartbeats 4000000 in
theorem turn_row1 (R : Int) (A0 A1 : Option Addr) (n0 c0 n1 c1 : Nat) (i : Nat) (l : List St) (s : St) (f : FuncId) (caps : Array Value) (G : St → Prop) (w : World) (hrow : RowV w A1 n1 c1 l) (hs : l[i]? = some s) (hn0 : n0 ≤ 65536) (hn1 : n1 ≤ 65536)
  (hcall : ∀ (args : Array Value) (w : World), (callFunc f args).run Try.prog w = .ok (.enter f args) w)
  (hby : ∀ W, Ext w W → Calls Try.prog f (#[.agg #[.slice s.D s.q s.cd, .int .i64 s.k]] ++ caps) W fun e W' => ∃ s' : St, e = .returned (.agg #[.slice s'.D s'.q s'.cd, .int .i64 s'.k]) ∧ G s' ∧ StOK W' s' ∧ (s'.d ≠ [] → ∀ a, s'.D = some a → a.block < w.heap.size ∨ W.heap.size ≤ a.block) ∧ Ext W W') :
  Calls Try.prog 132 #[.agg #[.int .u64 R, .slice A0 n0 c0, .slice A1 n1 c1], .int .i64 1, .int .i64 i, .func (.func f) #[] caps] w fun e w' =>
   ∃ (A' : Option Addr) (c' : Nat) (s' : St), e = .returned (.tuple #[.agg #[.int .u64 R, .slice A0 n0 c0, .slice A' n1 c'], .int .i64 0]) ∧ RowV w' A' n1 c' (l.set i s') ∧ G s' ∧ Ext w w' := by
 have hil : i < l.length := (List.getElem?_eq_some_iff.1 hs).1
 have hlen := hrow.len
 have hin : i < n1 := by omega
 have hini : (i : Int) < (n1 : Int) := by omega
 go_enter Try.func132, Try.ntmps132
 go_upto_region 1 with (fail)
 obtain ⟨hW, hE, hO⟩ := two_boxes7 w (.cells #[.int .u64 R, .slice A0 n0 c0, .slice A1 n1 c1] 49) (.cells #[.int .u64 0, .slice none 0 0, .slice none 0 0] 49)
 generalize (w.alloc (.cells #[.int .u64 R, .slice A0 n0 c0, .slice A1 n1 c1] 49)).alloc (.cells #[.int .u64 0, .slice none 0 0, .slice none 0 0] 49) = W at *
 have e0 : W.cell? ⟨w.heap.size, 0, none⟩ = some (.int .u64 R) := by simp [World.cell?, hE]
 have e1 : W.cell? ⟨w.heap.size, 1, none⟩ = some (.slice A0 n0 c0) := by simp [World.cell?, hE]
 have e2 : W.cell? ⟨w.heap.size, 2, none⟩ = some (.slice A1 n1 c1) := by simp [World.cell?, hE]
 go_wp2_with fail
 refine (is_any7 R A0 A1 n0 c0 n1 c1 1 i _).mono ?_
 rw [isB_row1 hin]
 rintro e w1 ⟨rfl, hx1⟩
 replace hE := heap_ext hE hx1
 replace hO := heap_ext hO hx1
 replace hW := hW.trans hx1
 clear e0 e1 e2 hx1
 have e0 : w1.cell? ⟨w.heap.size, 0, none⟩ = some (.int .u64 R) := by simp [World.cell?, hE]
 have e1 : w1.cell? ⟨w.heap.size, 1, none⟩ = some (.slice A0 n0 c0) := by simp [World.cell?, hE]
 have e2 : w1.cell? ⟨w.heap.size, 2, none⟩ = some (.slice A1 n1 c1) := by simp [World.cell?, hE]
 have hsz1 : w.heap.size + 1 < w1.heap.size := (Array.getElem?_eq_some_iff.1 hO).1
 go_wp2_with fail
 refine (clone_row A1 n1 c1 l _ (hrow.ext hW) (by omega)).mono ?_
 rintro e w2 ⟨v, rfl, hown, hx2⟩
 obtain ⟨gc, cc, rfl, hgb, hglt, hncc, -, -, -, -, -⟩ := hown.at hs
 replace hE := heap_ext hE hx2
 replace hO := heap_ext hO hx2
 replace hW := hW.trans hx2
 clear e0 e1 e2 hx2
 have e0 : w2.cell? ⟨w.heap.size, 0, none⟩ = some (.int .u64 R) := by simp [World.cell?, hE]
 have ef0 : w2.frozen? ⟨w.heap.size, 0, none⟩ = false := by simp [World.frozen?, hE]
 have e1 : w2.cell? ⟨w.heap.size, 1, none⟩ = some (.slice A0 n0 c0) := by simp [World.cell?, hE]
 have ef1 : w2.frozen? ⟨w.heap.size, 1, none⟩ = false := by simp [World.frozen?, hE]
 have e2 : w2.cell? ⟨w.heap.size, 2, none⟩ = some (.slice A1 n1 c1) := by simp [World.cell?, hE]
 have ef2 : w2.frozen? ⟨w.heap.size, 2, none⟩ = false := by simp [World.frozen?, hE]
 go_upto_region 4 with (fail)
 have hE3 : (w2.setCell ⟨w.heap.size, 2, none⟩ (.slice (some ⟨gc, 0, none⟩) n1 cc)).heap[w.heap.size]? = some (.cells #[.int .u64 R, .slice A0 n0 c0, .slice (some ⟨gc, 0, none⟩) n1 cc] 49 (0, 0)) := heap_setCell_at hE
 have hO3 : (w2.setCell ⟨w.heap.size, 2, none⟩ (.slice (some ⟨gc, 0, none⟩) n1 cc)).heap[w.heap.size + 1]? = _ := (Below.heap_setCell _ _ _ _ (by simp)).trans hO
 have hW3 : Ext w (w2.setCell ⟨w.heap.size, 2, none⟩ (.slice (some ⟨gc, 0, none⟩) n1 cc)) := hW.setCell (Nat.le_refl _) _
 have hown3 : OwnR (w2.setCell ⟨w.heap.size, 2, none⟩ (.slice (some ⟨gc, 0, none⟩) n1 cc)) w1.heap.size (.slice (some ⟨gc, 0, none⟩) n1 cc) n1 l :=
  hown.other (by simp; omega) fun x hx => (hrow.ok x hx).ext hW3
 clear e0 e1 e2 ef0 ef1 ef2 hE hO hW hown
 generalize w2.setCell ⟨w.heap.size, 2, none⟩ (.slice (some ⟨gc, 0, none⟩) n1 cc) = W3 at *
 obtain ⟨g', c', hgc, -, hgl3', -, s0, s1, f0, f1, hset⟩ := hown3.at hs
 obtain ⟨rfl, rfl⟩ : gc = g' ∧ cc = c' := by simpa using hgc
 clear hgc
 have hgl3 : gc < W3.heap.size := hgl3'
 have hw0 : w.heap.size + 1 < gc := by omega
 have ne1 : ¬ gc = w.heap.size := by omega
 have ne2 : ¬ gc = w.heap.size + 1 := by omega
 have ne3 : ¬ w.heap.size = gc := by omega
 have ne4 : ¬ w.heap.size + 1 = gc := by omega
 have hX : ∀ wx, Ext W3 wx → wx.cell? ⟨w.heap.size, 2, none⟩ = some (.slice (some ⟨gc, 0, none⟩) n1 cc) ∧ wx.cell? ⟨gc, i * 2, none⟩ = some (.slice s.D s.q s.cd) ∧ wx.cell? ⟨gc, i * 2 + 1, none⟩ = some (.int .i64 s.k) ∧ Ext w wx := fun wx hx =>
  ⟨hx.cell (by simp [World.cell?, hE3]), hx.cell s0, hx.cell s1, hW3.trans hx⟩
 obtain ⟨gE, hgE⟩ : ∃ g, g = w.heap.size := ⟨_, rfl⟩
 refine' SB.wp_region_sure (gx := []) (Pn := fun _ _ => False) ⟨((some 24, [], none) :: (some 25, [], none) :: (some 26, [1, 0], none) :: (some 27, [2], none) :: (some 28, [], none) :: (some 29, [], none) :: (some 30, [], none) :: (some 31, [], none) :: (some 32, [7, 6], none) :: (some 33, [8], none) :: (some 34, [], none) :: (some 35, [9, 10], none) :: (some 36, [11], none) :: (some 37, [5, 12], none) :: (some 38, [3, 4, 0, 1, 2, 3, 4, 5, 6, 7, 8, 9, 10, 11, 12, 13], none) :: (none, [14, 13, 13, 0, 1, 2, 3, 4, 5, 6, 7, 8, 9, 10, 11, 12, 13], none) :: []), (0 :: 0 :: 3 :: 7 :: 0 :: 0 :: 0 :: 0 :: 192 :: 448 :: 0 :: 1984 :: 4032 :: 8160 :: 16383 :: 32767 :: []), (none :: none :: none :: none :: none :: none :: none :: none :: none :: none :: none :: none :: none :: some [] :: []), []⟩ 14 40 ((0, 24) :: (1, 25) :: (2, 26) :: (3, 27) :: (4, 28) :: (5, 29) :: (6, 30) :: (7, 31) :: (8, 32) :: (9, 33) :: (10, 34) :: (11, 35) :: (12, 36) :: (13, 37) :: []) ((0, 24) :: (1, 25) :: (2, 26) :: (3, 27) :: (4, 28) :: (5, 29) :: (6, 30) :: (7, 31) :: (8, 32) :: (9, 33) :: (10, 34) :: (11, 35) :: (12, 36) :: (13, 37) :: []) (.det _ :: .det _ :: .det _ :: .det _ :: .det _ :: .det _ :: .det _ :: .det _ :: .det _ :: .det _ :: .det _ :: .det _ :: .det _ :: SB.Good.of (fun v w => ∃ s' : St, v = .agg #[.slice s'.D s'.q s'.cd, .int .i64 s'.k] ∧ G s' ∧ StOK w s' ∧ (s'.d ≠ [] → ∀ a, s'.D = some a → a.block ≠ gc ∧ a.block ≠ gE ∧ a.block ≠ gE + 1)) (fun v w w' h hx => let ⟨s', e, hg, ho, hf⟩ := h; ⟨s', e, hg, ho.ext hx, hf⟩) :: []) (by kernel_rfl) ?hpan (by kernel_rfl) (by kernel_rfl) rfl (by kernel_rfl) (by kernel_rfl) rfl ?hone ?hend
 case hpan =>
  intro _ _ _ _ h; exact h.elim
 case hone =>
  intro CS frS VS hCS ha hV
  have qs1 := slot_val (t := 1) ha rfl
  simp only [List.getElem_toArray, List.getElem_cons_succ, List.getElem_cons_zero] at qs1
  have qs2 := slot_val (t := 2) ha rfl
  simp only [List.getElem_toArray, List.getElem_cons_succ, List.getElem_cons_zero] at qs2
  have qs3 := slot_val (t := 3) ha rfl
  simp only [List.getElem_toArray, List.getElem_cons_succ, List.getElem_cons_zero] at qs3
  have qs4 := slot_val (t := 4) ha rfl
  simp only [List.getElem_toArray, List.getElem_cons_succ, List.getElem_cons_zero] at qs4
  have HCS := Lib.hid hCS
  have HVS := Lib.hid hV
  clear ha hCS hV
  refine SB.sure_det (js := []) (ts := [1]) (gd := none) (bs := []) (SB.place_at HVS.out (k := 0) rfl) (by rw [HCS.out]; kernel_rfl) (by rw [HCS.out]; kernel_rfl) ?_ ?_
  ·intro wx hx ρ hρ hs hf; have hρc := hρ.const; have hρf := hρ.func
   obtain ⟨fx1, -⟩ := hf; rw [qs1] at fx1
   clear hs
   clear HCS HVS qs1 qs2 qs3 qs4
   refine SB.run_plain ?_
   refine SB.op_move rfl fx1 ?_
   exact SB.detK.mk
  refine SB.sure_det (js := []) (ts := [4]) (gd := none) (bs := []) (SB.place_at HVS.out (k := 1) rfl) (by rw [HCS.out]; kernel_rfl) (by rw [HCS.out]; kernel_rfl) ?_ ?_
  ·intro wx hx ρ hρ hs hf; have hρc := hρ.const; have hρf := hρ.func
   obtain ⟨fx4, -⟩ := hf; rw [qs4] at fx4
   clear hs
   clear HCS HVS qs1 qs2 qs3 qs4
   refine SB.run_plain ?_
   unfold SB.runs
   go_simp
   exact SB.detK.mk
  refine SB.sure_det (js := [(1, 25), (0, 24)]) (ts := []) (gd := none) (bs := []) (SB.place_at HVS.out (k := 2) rfl) (by rw [HCS.out]; kernel_rfl) (by rw [HCS.out]; kernel_rfl) ?_ ?_
  ·intro wx hx ρ hρ hs hf; have hρc := hρ.const; have hρf := hρ.func; obtain ⟨sn1, sn0, -⟩ := hs
   rw [SB.place_at HVS.out (k := 1) rfl] at sn1; replace sn1 : ρ (.tmp 25) = _ := sn1
   rw [SB.place_at HVS.out (k := 0) rfl] at sn0; replace sn0 : ρ (.tmp 24) = _ := sn0
   clear hf
   clear HCS HVS qs1 qs2 qs3 qs4
   refine SB.run_plain ?_
   unfold SB.runs
   go_simp
   exact SB.detK.mk
  refine SB.sure_det (js := [(2, 26)]) (ts := []) (gd := none) (bs := []) (SB.place_at HVS.out (k := 3) rfl) (by rw [HCS.out]; kernel_rfl) (by rw [HCS.out]; kernel_rfl) ?_ ?_
  ·intro wx hx ρ hρ hs hf; have hρc := hρ.const; have hρf := hρ.func; obtain ⟨sn2, -⟩ := hs
   rw [SB.place_at HVS.out (k := 2) rfl] at sn2; replace sn2 : ρ (.tmp 26) = _ := sn2
   clear hf
   clear HCS HVS qs1 qs2 qs3 qs4
   refine SB.run_plain ?_
   obtain ⟨p0, p1, p2, pE⟩ := hX wx hx.ext.drawn
   unfold SB.runs
   go_simp
   exact SB.detK.mk
  refine SB.sure_det (js := []) (ts := [2]) (gd := none) (bs := []) (SB.place_at HVS.out (k := 4) rfl) (by rw [HCS.out]; kernel_rfl) (by rw [HCS.out]; kernel_rfl) ?_ ?_
  ·intro wx hx ρ hρ hs hf; have hρc := hρ.const; have hρf := hρ.func
   obtain ⟨fx2, -⟩ := hf; rw [qs2] at fx2
   clear hs
   clear HCS HVS qs1 qs2 qs3 qs4
   refine SB.run_plain ?_
   refine SB.op_move rfl fx2 ?_
   exact SB.detK.mk
  refine SB.sure_det (js := []) (ts := [3]) (gd := none) (bs := []) (SB.place_at HVS.out (k := 5) rfl) (by rw [HCS.out]; kernel_rfl) (by rw [HCS.out]; kernel_rfl) ?_ ?_
  ·intro wx hx ρ hρ hs hf; have hρc := hρ.const; have hρf := hρ.func
   obtain ⟨fx3, -⟩ := hf; rw [qs3] at fx3
   clear hs
   clear HCS HVS qs1 qs2 qs3 qs4
   refine SB.run_plain ?_
   refine SB.op_move rfl fx3 ?_
   exact SB.detK.mk
  refine SB.sure_det (js := []) (ts := [1]) (gd := none) (bs := []) (SB.place_at HVS.out (k := 6) rfl) (by rw [HCS.out]; kernel_rfl) (by rw [HCS.out]; kernel_rfl) ?_ ?_
  ·intro wx hx ρ hρ hs hf; have hρc := hρ.const; have hρf := hρ.func
   obtain ⟨fx1, -⟩ := hf; rw [qs1] at fx1
   clear hs
   clear HCS HVS qs1 qs2 qs3 qs4
   refine SB.run_plain ?_
   refine SB.op_move rfl fx1 ?_
   exact SB.detK.mk
  refine SB.sure_det (js := []) (ts := [4]) (gd := none) (bs := []) (SB.place_at HVS.out (k := 7) rfl) (by rw [HCS.out]; kernel_rfl) (by rw [HCS.out]; kernel_rfl) ?_ ?_
  ·intro wx hx ρ hρ hs hf; have hρc := hρ.const; have hρf := hρ.func
   obtain ⟨fx4, -⟩ := hf; rw [qs4] at fx4
   clear hs
   clear HCS HVS qs1 qs2 qs3 qs4
   refine SB.run_plain ?_
   unfold SB.runs
   go_simp
   exact SB.detK.mk
  refine SB.sure_det (js := [(7, 31), (6, 30)]) (ts := []) (gd := none) (bs := []) (SB.place_at HVS.out (k := 8) rfl) (by rw [HCS.out]; kernel_rfl) (by rw [HCS.out]; kernel_rfl) ?_ ?_
  ·intro wx hx ρ hρ hs hf; have hρc := hρ.const; have hρf := hρ.func; obtain ⟨sn7, sn6, -⟩ := hs
   rw [SB.place_at HVS.out (k := 7) rfl] at sn7; replace sn7 : ρ (.tmp 31) = _ := sn7
   rw [SB.place_at HVS.out (k := 6) rfl] at sn6; replace sn6 : ρ (.tmp 30) = _ := sn6
   clear hf
   clear HCS HVS qs1 qs2 qs3 qs4
   refine SB.run_plain ?_
   unfold SB.runs
   go_simp
   exact SB.detK.mk
  refine SB.sure_det (js := [(8, 32)]) (ts := []) (gd := none) (bs := []) (SB.place_at HVS.out (k := 9) rfl) (by rw [HCS.out]; kernel_rfl) (by rw [HCS.out]; kernel_rfl) ?_ ?_
  ·intro wx hx ρ hρ hs hf; have hρc := hρ.const; have hρf := hρ.func; obtain ⟨sn8, -⟩ := hs
   rw [SB.place_at HVS.out (k := 8) rfl] at sn8; replace sn8 : ρ (.tmp 32) = _ := sn8
   clear hf
   clear HCS HVS qs1 qs2 qs3 qs4
   refine SB.run_plain ?_
   obtain ⟨p0, p1, p2, pE⟩ := hX wx hx.ext.drawn
   unfold SB.runs
   go_simp
   exact SB.detK.mk
  refine SB.sure_det (js := []) (ts := [2]) (gd := none) (bs := []) (SB.place_at HVS.out (k := 10) rfl) (by rw [HCS.out]; kernel_rfl) (by rw [HCS.out]; kernel_rfl) ?_ ?_
  ·intro wx hx ρ hρ hs hf; have hρc := hρ.const; have hρf := hρ.func
   obtain ⟨fx2, -⟩ := hf; rw [qs2] at fx2
   clear hs
   clear HCS HVS qs1 qs2 qs3 qs4
   refine SB.run_plain ?_
   refine SB.op_move rfl fx2 ?_
   exact SB.detK.mk
  refine SB.sure_det (js := [(9, 33), (10, 34)]) (ts := []) (gd := none) (bs := []) (SB.place_at HVS.out (k := 11) rfl) (by rw [HCS.out]; kernel_rfl) (by rw [HCS.out]; kernel_rfl) ?_ ?_
  ·intro wx hx ρ hρ hs hf; have hρc := hρ.const; have hρf := hρ.func; obtain ⟨sn9, sn10, -⟩ := hs
   rw [SB.place_at HVS.out (k := 9) rfl] at sn9; replace sn9 : ρ (.tmp 33) = _ := sn9
   rw [SB.place_at HVS.out (k := 10) rfl] at sn10; replace sn10 : ρ (.tmp 34) = _ := sn10
   clear hf
   clear HCS HVS qs1 qs2 qs3 qs4
   refine SB.run_plain ?_
   unfold SB.runs
   go_simp
   exact SB.detK.mk
  refine SB.sure_det (js := [(11, 35)]) (ts := []) (gd := none) (bs := []) (SB.place_at HVS.out (k := 12) rfl) (by rw [HCS.out]; kernel_rfl) (by rw [HCS.out]; kernel_rfl) ?_ ?_
  ·intro wx hx ρ hρ hs hf; have hρc := hρ.const; have hρf := hρ.func; obtain ⟨sn11, -⟩ := hs
   rw [SB.place_at HVS.out (k := 11) rfl] at sn11; replace sn11 : ρ (.tmp 35) = _ := sn11
   clear hf
   clear HCS HVS qs1 qs2 qs3 qs4
   refine SB.run_plain ?_
   obtain ⟨p0, p1, p2, pE⟩ := hX wx hx.ext.drawn
   unfold SB.runs
   go_simp
   exact SB.detK.mk
  refine SB.sure_op (js := [(5, 29), (12, 36)]) (ts := []) (gd := none) (bs := []) (SB.place_at HVS.out (k := 13) rfl) (by rw [HCS.out]; kernel_rfl) (by rw [HCS.out]; kernel_rfl) ?_ ?_
  ·intro wx hx ρ hρ hs hf; have hρc := hρ.const; have hρf := hρ.func; obtain ⟨sn5, sn12, -⟩ := hs
   rw [SB.place_at HVS.out (k := 5) rfl] at sn5; replace sn5 : ρ (.tmp 29) = _ := sn5
   rw [SB.place_at HVS.out (k := 12) rfl] at sn12; replace sn12 : ρ (.tmp 36) = _ := sn12
   clear hf
   clear HCS HVS qs1 qs2 qs3 qs4
   refine SB.run_plain ?_
   refine SB.op_callv rfl sn5 hcall (map_one sn12) ?_
   refine Calls.mono (hby wx (hX wx hx.ext.drawn).2.2.2) ?_
   rintro e w' ⟨s', rfl, hg, ho, hfar, hx5⟩
   have hsx := hx.ext.drawn.size
   exact .inl ⟨_, rfl, hx5, s', rfl, hg, ho, fun hd a ha => by rcases hfar hd a ha with h | h <;> omega⟩
  exact trivial
 case hend =>
  intro xs wx hx hg hq
  have gk0 : xs 0 = _ := SB.goods_get hg (i := 0) (j := 0) (d := 24) rfl
  have gk1 : xs 1 = _ := SB.goods_get hg (i := 1) (j := 1) (d := 25) rfl
  have gk2 : xs 2 = _ := SB.goods_get hg (i := 2) (j := 2) (d := 26) rfl
  have gk3 : xs 3 = _ := SB.goods_get hg (i := 3) (j := 3) (d := 27) rfl
  have gk4 : xs 4 = _ := SB.goods_get hg (i := 4) (j := 4) (d := 28) rfl
  have gk5 : xs 5 = _ := SB.goods_get hg (i := 5) (j := 5) (d := 29) rfl
  have gk6 : xs 6 = _ := SB.goods_get hg (i := 6) (j := 6) (d := 30) rfl
  have gk7 : xs 7 = _ := SB.goods_get hg (i := 7) (j := 7) (d := 31) rfl
  have gk8 : xs 8 = _ := SB.goods_get hg (i := 8) (j := 8) (d := 32) rfl
  have gk9 : xs 9 = _ := SB.goods_get hg (i := 9) (j := 9) (d := 33) rfl
  have gk10 : xs 10 = _ := SB.goods_get hg (i := 10) (j := 10) (d := 34) rfl
  have gk11 : xs 11 = _ := SB.goods_get hg (i := 11) (j := 11) (d := 35) rfl
  have gk12 : xs 12 = _ := SB.goods_get hg (i := 12) (j := 12) (d := 36) rfl
  have gk13 : ∃ s' : St, (xs 13) = .agg #[.slice s'.D s'.q s'.cd, .int .i64 s'.k] ∧ G s' ∧ StOK wx s' ∧ (s'.d ≠ [] → ∀ a, s'.D = some a → a.block ≠ gc ∧ a.block ≠ gE ∧ a.block ≠ gE + 1) := SB.goods_get hg (i := 13) (j := 13) (d := 37) rfl
  clear hg hq
  simp only [putAll, gk0, gk1, gk2, gk3, gk4, gk5, gk6, gk7, gk8, gk9, gk10, gk11, gk12]
  clear gk0 gk1 gk2 gk3 gk4 gk5 gk6 gk7 gk8 gk9 gk10 gk11 gk12
  generalize xs 13 = vx13 at gk13 ⊢
  clear xs
  simp only [Act.put, List.setIfInBounds_toArray, List.set_cons_zero, List.set_cons_succ, List.drop_succ_cons, List.drop_zero]
  obtain ⟨s', e', hg', hok', hfar⟩ := gk13
  subst e'
  subst hgE
  have hxx : Ext W3 wx := (SB.ExtS.ext hx).drawn
  have x0 := hxx.cell s0
  have x1 := hxx.cell s1
  have y0 : wx.frozen? ⟨gc, i * 2, none⟩ = false := by rw [hxx.frozen hgl3]; exact f0
  have y1 : wx.frozen? ⟨gc, i * 2 + 1, none⟩ = false := by rw [hxx.frozen hgl3]; exact f1
  have hE4 := heap_ext hE3 hxx
  have hO4 := heap_ext hO3 hxx
  have e0 : wx.cell? ⟨w.heap.size, 0, none⟩ = some (.int .u64 R) := by simp [World.cell?, hE4]
  have e1 : wx.cell? ⟨w.heap.size, 1, none⟩ = some (.slice A0 n0 c0) := by simp [World.cell?, hE4]
  have e2 : wx.cell? ⟨w.heap.size, 2, none⟩ = some (.slice (some ⟨gc, 0, none⟩) n1 cc) := by simp [World.cell?, hE4]
  have d0 : wx.cell? ⟨w.heap.size + 1, 0, none⟩ = some (.int .u64 0) := by simp [World.cell?, hO4]
  have df0 : wx.frozen? ⟨w.heap.size + 1, 0, none⟩ = false := by simp [World.frozen?, hO4]
  have d1 : wx.cell? ⟨w.heap.size + 1, 1, none⟩ = some (.slice none 0 0) := by simp [World.cell?, hO4]
  have df1 : wx.frozen? ⟨w.heap.size + 1, 1, none⟩ = false := by simp [World.frozen?, hO4]
  have d2 : wx.cell? ⟨w.heap.size + 1, 2, none⟩ = some (.slice none 0 0) := by simp [World.cell?, hO4]
  have df2 : wx.frozen? ⟨w.heap.size + 1, 2, none⟩ = false := by simp [World.frozen?, hO4]
  have hblk := hxx.block gc hgl3
  have hokx : ∀ x ∈ l, StOK wx x := fun x hx' => (hrow.ok x hx').ext (hW3.trans hxx)
  have hX4 := hW3.trans hxx
  clear hE3 hO3 hE4 hO4 hX hx hW3 hxx s0 s1 f0 f1 hown3
  go_wp2
  refine bodyPost_ret (v := .tuple #[.agg #[.int .u64 R, .slice A0 n0 c0, .slice (some ⟨gc, 0, none⟩) n1 cc], .int .i64 0]) (by simp [results, Try.results132, go_sem, d0, d1, d2]) rfl ?_
  have hlow : ∀ x ∈ l, x.d ≠ [] → ∀ a, x.D = some a → a.block ≠ gc ∧ a.block ≠ w.heap.size ∧ a.block ≠ w.heap.size + 1 := fun x hx hd a ha => by have := (hrow.ok x hx).low hd a ha; omega
  have hst : ∀ x, StOK wx x → (x.d ≠ [] → ∀ a, x.D = some a → a.block ≠ gc ∧ a.block ≠ w.heap.size ∧ a.block ≠ w.heap.size + 1) → StOK (setAll (w.heap.size + 1) 0 [.int .u64 R, .slice A0 n0 c0, .slice (some ⟨gc, 0, none⟩) n1 cc] ((wx.setCell ⟨gc, i * 2, none⟩ (.slice s'.D s'.q s'.cd)).setCell ⟨gc, i * 2 + 1, none⟩ (.int .i64 s'.k))) x := fun x h hf =>
   ((((h.set (fun hd a ha => (hf hd a ha).1) _).set (fun hd a ha => (hf hd a ha).1) _).set (fun hd a ha => (hf hd a ha).2.2) _).set (fun hd a ha => (hf hd a ha).2.2) _).set (fun hd a ha => (hf hd a ha).2.2) _
  have hnew := hset s' (setAll (w.heap.size + 1) 0 [.int .u64 R, .slice A0 n0 c0, .slice (some ⟨gc, 0, none⟩) n1 cc] ((wx.setCell ⟨gc, i * 2, none⟩ (.slice s'.D s'.q s'.cd)).setCell ⟨gc, i * 2 + 1, none⟩ (.int .i64 s'.k)))
   (fun x hx => by
    rcases List.mem_cons.1 hx with rfl | hx
    ·exact hst _ hok' hfar
    ·exact hst _ (hokx x hx) (hlow x hx))
   (by
    rw [setAll_other (by omega)]
    exact heap_set_congr (heap_set_congr hblk))
  obtain ⟨A', c', e', hr⟩ := hnew.form
  cases e'
  refine ⟨_, _, s', rfl, hr, hg', ?_⟩
  have hx5 : Ext w ((wx.setCell ⟨gc, i * 2, none⟩ (.slice s'.D s'.q s'.cd)).setCell ⟨gc, i * 2 + 1, none⟩ (.int .i64 s'.k)) := (hX4.setCell (show w.heap.size ≤ gc by omega) _).setCell (show w.heap.size ≤ gc by omega) _
  exact setAll_ext (g := w.heap.size + 1) (vs := [.int .u64 R, .slice A0 n0 c0, .slice (some ⟨gc, 0, none⟩) n1 cc]) (i := 0) hx5 (by omega)
end Go.Proofs.Ytjokaginolpbeaa

namespace Go.Proofs.Ytjokaginolpbeaa
open Go.RowKit

/-! What is done with disks. -/
theorem Cells.setAll {w : World} {A : Option Addr} {xs : List Value} (h : Cells w A xs) {g : Nat} (hp : xs ≠ [] → ∀ a, A = some a → a.block ≠ g) (i : Nat) (vs : List Value) : Cells (setAll g i vs w) A xs := fun hn =>
 let ⟨a, ha, hc⟩ := h hn
 ⟨a, ha, fun j v hv => by
  rw [World.cell?_of_block (setAll_other (by rw [add_block]; exact hp hn a ha) vs i w)]
  exact hc j v hv⟩
theorem three_boxes7 (w : World) (o0 o1 o2 : Obj) :
  Ext w (((w.alloc o0).alloc o1).alloc o2) ∧ (((w.alloc o0).alloc o1).alloc o2).heap.size = w.heap.size + 3 ∧
  (((w.alloc o0).alloc o1).alloc o2).heap[w.heap.size]? = some o0 ∧ (((w.alloc o0).alloc o1).alloc o2).heap[w.heap.size + 1]? = some o1 ∧ (((w.alloc o0).alloc o1).alloc o2).heap[w.heap.size + 1 + 1]? = some o2 := by
 refine ⟨((((Below.refl _ w).alloc (Nat.le_refl _) _).alloc (by simp) _).alloc (by simp; omega) _), by simp, ?_, ?_, ?_⟩
 ·rw [Below.heap_alloc _ _ _ (by first | (simp; omega) | simp), Below.heap_alloc _ _ _ (by first | (simp; omega) | simp)]
  simpa using heap_alloc_new w o0
 ·rw [Below.heap_alloc _ _ _ (by first | (simp; omega) | simp)]
  simpa using heap_alloc_new (w.alloc o0) o1
 ·simpa using heap_alloc_new ((w.alloc o0).alloc o1) o2
/-- what stands in a disk's box: numbers and slices -/
def diskish : Value → Bool
 | .slice _ _ _ => true
 | .int .u64 _ => true
 | _ => false
theorem apart_of {w : World} {A : Option Addr} {xs : List Value} (h : Cells w A xs) {g : Nat} {cs : Array Value} {T : TypeId} {fr : Nat × Nat} (hg : w.heap[g]? = some (.cells cs T fr)) (hd : ∀ v ∈ cs, diskish v = true) (hx : xs ≠ [] → ∃ v ∈ xs, diskish v = false) :
  xs ≠ [] → ∀ a, A = some a → a.block ≠ g := fun hn a ha hb => by
 obtain ⟨a', ha', hcell⟩ := h hn
 obtain rfl : a = a' := Option.some.inj (ha.symm.trans ha')
 obtain ⟨v, hv, hf⟩ := hx hn
 obtain ⟨j, hj⟩ := List.getElem?_of_mem hv
 have h1 := hcell j v hj
 unfold World.cell? at h1
 rw [add_block, hb, hg] at h1
 simp only at h1
 split at h1
 ·cases h1
 ·have := hd v (Array.mem_of_getElem? h1)
  rw [hf] at this; cases this
theorem StOK.box {w : World} {s : St} (h : StOK w s) {g : Nat} {cs : Array Value} {T : TypeId} {fr : Nat × Nat} (hg : w.heap[g]? = some (.cells cs T fr)) (hd : ∀ v ∈ cs, diskish v = true) (i : Nat) (vs : List Value) : StOK (setAll g i vs w) s :=
 ⟨h.len, h.le, h.cap, h.nil, h.cells.setAll (apart_of h.cells hg hd fun hn => by
  match hs : s.d, hn with
  | [], hn => exact absurd rfl hn
  | x :: d, hn => exact ⟨_, List.mem_cons_self .., rfl⟩) i vs⟩
theorem RowV.box {w : World} {A : Option Addr} {n c : Nat} {l : List St} (h : RowV w A n c l) {g : Nat} {cs : Array Value} {T : TypeId} {fr : Nat × Nat} (hg : w.heap[g]? = some (.cells cs T fr)) (hd : ∀ v ∈ cs, diskish v = true) (i : Nat) (vs : List Value) : RowV (setAll g i vs w) A n c l :=
 ⟨h.len, h.le, h.cap, h.nil, h.cells.setAll (apart_of h.cells hg hd fun hn => by
  match l, hn with
  | [], hn => exact absurd rfl hn
  | x :: l, hn => exact ⟨.int .i64 x.k, by simp [rowCells, St.cells], rfl⟩) i vs, fun s hs => (h.ok s hs).box hg hd i vs⟩
theorem diskish_three {a b c : Value} (v : Value) (hv : v ∈ #[a, b, c]) (ha : diskish a = true) (hb : diskish b = true) (hc : diskish c = true) : diskish v = true := by
 simp at hv
 rcases hv with rfl | rfl | rfl <;> assumption
theorem made_row (n : Nat) : madeCells (Value.agg #[.slice none 0 0, .int .i64 0]).cells (n * 2) = (rowCells (List.replicate n St.zero)).toArray := by
 refine Array.ext_getElem? fun i => ?_
 have hlen : (rowCells (List.replicate n St.zero)).length = n * 2 := by rw [rowCells_length, List.length_replicate]
 by_cases hi : i < n * 2
 ·have hj : (List.replicate n St.zero)[i / 2]? = some St.zero := by rw [List.getElem?_replicate]; simp; omega
  obtain ⟨h1, h2⟩ := rowCells_at hj
  have hz : (Value.agg #[.slice none 0 0, .int .i64 0]).cells = #[.slice none 0 0, .int .i64 0] := rfl
  rcases Nat.mod_two_eq_zero_or_one i with hm | hm
  ·rw [show i = i / 2 * 2 by omega]
   simp only [List.getElem?_toArray]
   rw [h1]
   simp [madeCells, hz, St.zero, show i / 2 * 2 < n * 2 by omega]
  ·rw [show i = i / 2 * 2 + 1 by omega]
   simp only [List.getElem?_toArray]
   rw [h2]
   simp [madeCells, hz, St.zero, show i / 2 * 2 + 1 < n * 2 by omega, Nat.add_mod]
 ·rw [Array.getElem?_eq_none (by rw [size_madeCells]; omega), List.getElem?_toArray, List.getElem?_eq_none (by omega)]
theorem zero_ok {w : World} {n : Nat} : ∀ s ∈ List.replicate n St.zero, StOK w s := fun s hs => by
 obtain ⟨_, rfl⟩ := List.mem_replicate.1 hs
 exact StOK.zero w
theorem RowV.made {w : World} {g n : Nat} {T : TypeId} {fr : Nat × Nat} {l : List St} (hg : w.heap[g]? = some (.cells (rowCells l).toArray T fr)) (hl : l.length = n) (hn : n ≤ 65536) (hok : ∀ s ∈ l, StOK w s) : RowV w (some ⟨g, 0, none⟩) n n l := by
 refine ⟨hl, Nat.le_refl _, by simp only [maxLen]; omega, (by intro h; cases h), fun _ => ⟨_, rfl, fun j u hu => ?_⟩, hok⟩
 have h2 : (⟨g, 0, none⟩ : Addr).add j = ⟨g, j, none⟩ := by unfold Addr.add; split <;> simp_all
 rw [h2]
 simp only [World.cell?, hg, Option.isSome_none, Bool.false_eq_true, if_false]
 simpa using hu
theorem run_mkrow (n : Nat) (hn : n ≤ 65536) (W : World) : (Instr.makeSlice 46 (.int .i64 (n : Int)) (.int .i64 (n : Int))).run Try.prog W = .ok (.slice (some ⟨W.heap.size, 0, none⟩) n n) (W.alloc (.cells (rowCells (List.replicate n St.zero)).toArray 122)) := by
 obtain ⟨i0, hi0, hz0, hz1, hz2⟩ := info_parts info_stream
 have := run_make (P := Try.prog) W 46 122 i0 _ Try.underlying46 hi0 hz0 .i64 .i64 (n : Int) (n : Int) (by omega) (Int.le_refl _) (by rw [hz2]; omega) (by omega)
 simp only [Int.toNat_natCast, hz1] at this
 rw [this, made_row]
set_option maxRecDepth 100000 in
set_option maxHeartbeats 1000000 in
/-- the closure of disk.Append -/
theorem appendc_any (g : Nat) (A B : Option Addr) (n c m c2 : Nat) (k : Int) (d b : List UInt8) (w : World) (hg : w.cell? ⟨g, 0, none⟩ = some (.slice B m c2)) (hA : BytesV w A n c d) (hB : BytesV w B m c2 b) (hs : n + m ≤ 65536) :
  Calls Try.prog 133 #[.agg #[.slice A n c, .int .i64 k], .pointer (some ⟨g, 0, none⟩)] w fun e w' =>
   ∃ A' c', e = .returned (.agg #[.slice A' (n + m) c', .int .i64 k]) ∧ BytesV w' A' (n + m) c' (d ++ b) ∧ (d ++ b ≠ [] → ∀ a, A' = some a → (A' = A ∧ d ≠ []) ∨ w.heap.size ≤ a.block) ∧ Ext w w' := by
 go_enter Try.func133, Try.ntmps133
 go_upto_region 1 with (fail)
 obtain ⟨hW, hE, hO⟩ := two_boxes7 w (.cells #[.slice A n c, .int .i64 k] 122) (.cells #[.slice none 0 0, .int .i64 0] 122)
 generalize (w.alloc (.cells #[.slice A n c, .int .i64 k] 122)).alloc (.cells #[.slice none 0 0, .int .i64 0] 122) = W at *
 have e0 : W.cell? ⟨w.heap.size, 0, none⟩ = some (.slice A n c) := by simp [World.cell?, hE]
 have e1 : W.cell? ⟨w.heap.size, 1, none⟩ = some (.int .i64 k) := by simp [World.cell?, hE]
 have hg' := hW.cell hg
 have hlt : w.heap.size + 1 < W.heap.size := (Array.getElem?_eq_some_iff.1 hO).1
 have hsz := hW.size
 go_wp2_with fail
 refine (append_new A B n c m c2 k d b _ (hA.ext hW) (hB.ext hW) hs).mono ?_
 rintro e w1 ⟨A', c', rfl, hV, hfar, hx1⟩
 replace hO := heap_ext hO hx1
 have hX := hW.trans hx1
 clear e0 e1 hg' hE
 have d0 : w1.cell? ⟨w.heap.size + 1, 0, none⟩ = some (.slice none 0 0) := by simp [World.cell?, hO]
 have df0 : w1.frozen? ⟨w.heap.size + 1, 0, none⟩ = false := by simp [World.frozen?, hO]
 have d1 : w1.cell? ⟨w.heap.size + 1, 1, none⟩ = some (.int .i64 0) := by simp [World.cell?, hO]
 have df1 : w1.frozen? ⟨w.heap.size + 1, 1, none⟩ = false := by simp [World.frozen?, hO]
 have hlow := (show StOK w ⟨A, n, c, k, d⟩ from hA).low
 have hblk : d ++ b ≠ [] → ∀ a, A' = some a → a.block ≠ w.heap.size + 1 := fun hne a ha => by
  rcases hfar hne a ha with ⟨rfl, hd⟩ | h
  ·have := hlow hd a ha; omega
  ·omega
 clear hO
 go_wp2
 refine bodyPost_ret (v := .agg #[.slice A' (n + m) c', .int .i64 k]) (by simp [results, Try.results133, go_sem, d0, d1]) rfl ⟨A', c', rfl, ?_, ?_, ?_⟩
 ·exact ((show StOK w1 ⟨A', n + m, c', k, d ++ b⟩ from hV).set (p := ⟨w.heap.size + 1, 0, none⟩) hblk _).set (p := ⟨w.heap.size + 1, 1, none⟩) hblk _
 ·intro hne a ha
  rcases hfar hne a ha with h | h
  ·exact .inl h
  ·exact .inr (by omega)
 ·exact (hX.setCell (by simp) _).setCell (by simp) _
set_option maxRecDepth 100000 in
set_option maxHeartbeats 1000000 in
theorem dappend_row0 (R : Int) (A0 A1 : Option Addr) (n0 c0 n1 c1 : Nat) (i : Nat) (l : List St) (s : St) (B : Option Addr) (m c2 : Nat) (b : List UInt8) (w : World) (hrow : RowV w A0 n0 c0 l) (hs : l[i]? = some s) (hn0 : n0 ≤ 65536) (hn1 : n1 ≤ 65536)
  (hB : BytesV w B m c2 b) (hm : s.q + m ≤ 65536) :
  Calls Try.prog 76 #[.agg #[.int .u64 R, .slice A0 n0 c0, .slice A1 n1 c1], .int .i64 0, .int .i64 i, .slice B m c2] w fun e w' =>
   ∃ (A' : Option Addr) (c' : Nat) (s' : St), e = .returned (.tuple #[.agg #[.int .u64 R, .slice A' n0 c', .slice A1 n1 c1], .int .i64 0]) ∧ RowV w' A' n0 c' (l.set i s') ∧ (s'.q = s.q + m ∧ s'.k = s.k ∧ s'.d = s.d ++ b) ∧ Ext w w' := by
 have hmf : ∀ (fn : Fn) (first cap : Array Value) (w : World), (Instr.makeFunc fn first cap).run Try.prog w = .ok (.func fn first cap) w := fun _ _ _ _ => rfl
 have hsok := hrow.ok s (List.mem_of_getElem? hs)
 go_enter Try.func76, Try.ntmps76
 go_upto_region 1 with (fail)
 obtain ⟨hW, -, hE, hG, hO⟩ := three_boxes7 w (.cells #[.int .u64 R, .slice A0 n0 c0, .slice A1 n1 c1] 49) (.cells #[.slice B m c2] 30) (.cells #[.int .u64 0, .slice none 0 0, .slice none 0 0] 49)
 generalize ((w.alloc (.cells #[.int .u64 R, .slice A0 n0 c0, .slice A1 n1 c1] 49)).alloc (.cells #[.slice B m c2] 30)).alloc (.cells #[.int .u64 0, .slice none 0 0, .slice none 0 0] 49) = W at *
 have e0 : W.cell? ⟨w.heap.size, 0, none⟩ = some (.int .u64 R) := by simp [World.cell?, hE]
 have e1 : W.cell? ⟨w.heap.size, 1, none⟩ = some (.slice A0 n0 c0) := by simp [World.cell?, hE]
 have e2 : W.cell? ⟨w.heap.size, 2, none⟩ = some (.slice A1 n1 c1) := by simp [World.cell?, hE]
 have hgc : W.cell? ⟨w.heap.size + 1, 0, none⟩ = some (.slice B m c2) := by simp [World.cell?, hG]
 have hby : ∀ W', Ext W W' → Calls Try.prog 133 (#[.agg #[.slice s.D s.q s.cd, .int .i64 s.k]] ++ #[.pointer (some ⟨w.heap.size + 1, 0, none⟩)]) W' fun e w' => ∃ s' : St, e = .returned (.agg #[.slice s'.D s'.q s'.cd, .int .i64 s'.k]) ∧
   (s'.q = s.q + m ∧ s'.k = s.k ∧ s'.d = s.d ++ b) ∧ StOK w' s' ∧ (s'.d ≠ [] → ∀ a, s'.D = some a → a.block < W.heap.size ∨ W'.heap.size ≤ a.block) ∧ Ext W' w' := fun W' hx =>
  (appendc_any (w.heap.size + 1) s.D B s.q s.cd m c2 s.k s.d b W' (hx.cell hgc) ((hsok.ext hW).ext hx) ((hB.ext hW).ext hx) hm).mono fun e w' ⟨A', c', he, hV, hfar, hx'⟩ =>
   ⟨⟨A', s.q + m, c', s.k, s.d ++ b⟩, he, ⟨rfl, rfl, rfl⟩, hV, fun hd a ha => by
    rcases hfar hd a ha with ⟨h1, h2⟩ | h
    ·exact .inl ((hsok.ext hW).low h2 a (h1 ▸ ha))
    ·exact .inr h, hx'⟩
 go_wp2_with fail
 refine (turn_row0 R A0 A1 n0 c0 n1 c1 i l s 133 #[.pointer (some ⟨w.heap.size + 1, 0, none⟩)] (fun s' => s'.q = s.q + m ∧ s'.k = s.k ∧ s'.d = s.d ++ b) W (hrow.ext hW) hs hn0 hn1 Try.call133 hby).mono ?_
 rintro e w1 ⟨A', c', s', rfl, hr, hg, hx1⟩
 replace hO := heap_ext hO hx1
 replace hW := hW.trans hx1
 clear hby e0 e1 e2 hgc hE hG
 have d0 : w1.cell? ⟨w.heap.size + 1 + 1, 0, none⟩ = some (.int .u64 0) := by simp [World.cell?, hO]
 have df0 : w1.frozen? ⟨w.heap.size + 1 + 1, 0, none⟩ = false := by simp [World.frozen?, hO]
 have d1 : w1.cell? ⟨w.heap.size + 1 + 1, 1, none⟩ = some (.slice none 0 0) := by simp [World.cell?, hO]
 have df1 : w1.frozen? ⟨w.heap.size + 1 + 1, 1, none⟩ = false := by simp [World.frozen?, hO]
 have d2 : w1.cell? ⟨w.heap.size + 1 + 1, 2, none⟩ = some (.slice none 0 0) := by simp [World.cell?, hO]
 have df2 : w1.frozen? ⟨w.heap.size + 1 + 1, 2, none⟩ = false := by simp [World.frozen?, hO]
 have hr2 := fun vs => hr.box hO (fun v hv => diskish_three v hv rfl rfl rfl) 0 vs
 clear hO hr
 go_wp2
 refine bodyPost_ret (v := .tuple #[.agg #[.int .u64 R, .slice A' n0 c', .slice A1 n1 c1], .int .i64 0]) (by simp [results, Try.results76, go_sem, d0, d1, d2]) rfl ⟨A', c', s', rfl, ?_, hg, ?_⟩
 ·exact hr2 [.int .u64 R, .slice A' n0 c', .slice A1 n1 c1]
 ·exact setAll_ext (g := w.heap.size + 1 + 1) (vs := [.int .u64 R, .slice A' n0 c', .slice A1 n1 c1]) (i := 0) hW (by omega)
set_option maxRecDepth 100000 in
set_option maxHeartbeats 1000000 in
theorem dappend_row1 (R : Int) (A0 A1 : Option Addr) (n0 c0 n1 c1 : Nat) (i : Nat) (l : List St) (s : St) (B : Option Addr) (m c2 : Nat) (b : List UInt8) (w : World) (hrow : RowV w A1 n1 c1 l) (hs : l[i]? = some s) (hn0 : n0 ≤ 65536) (hn1 : n1 ≤ 65536)
  (hB : BytesV w B m c2 b) (hm : s.q + m ≤ 65536) :
  Calls Try.prog 76 #[.agg #[.int .u64 R, .slice A0 n0 c0, .slice A1 n1 c1], .int .i64 1, .int .i64 i, .slice B m c2] w fun e w' =>
   ∃ (A' : Option Addr) (c' : Nat) (s' : St), e = .returned (.tuple #[.agg #[.int .u64 R, .slice A0 n0 c0, .slice A' n1 c'], .int .i64 0]) ∧ RowV w' A' n1 c' (l.set i s') ∧ (s'.q = s.q + m ∧ s'.k = s.k ∧ s'.d = s.d ++ b) ∧ Ext w w' := by
 have hmf : ∀ (fn : Fn) (first cap : Array Value) (w : World), (Instr.makeFunc fn first cap).run Try.prog w = .ok (.func fn first cap) w := fun _ _ _ _ => rfl
 have hsok := hrow.ok s (List.mem_of_getElem? hs)
 go_enter Try.func76, Try.ntmps76
 go_upto_region 1 with (fail)
 obtain ⟨hW, -, hE, hG, hO⟩ := three_boxes7 w (.cells #[.int .u64 R, .slice A0 n0 c0, .slice A1 n1 c1] 49) (.cells #[.slice B m c2] 30) (.cells #[.int .u64 0, .slice none 0 0, .slice none 0 0] 49)
 generalize ((w.alloc (.cells #[.int .u64 R, .slice A0 n0 c0, .slice A1 n1 c1] 49)).alloc (.cells #[.slice B m c2] 30)).alloc (.cells #[.int .u64 0, .slice none 0 0, .slice none 0 0] 49) = W at *
 have e0 : W.cell? ⟨w.heap.size, 0, none⟩ = some (.int .u64 R) := by simp [World.cell?, hE]
 have e1 : W.cell? ⟨w.heap.size, 1, none⟩ = some (.slice A0 n0 c0) := by simp [World.cell?, hE]
 have e2 : W.cell? ⟨w.heap.size, 2, none⟩ = some (.slice A1 n1 c1) := by simp [World.cell?, hE]
 have hgc : W.cell? ⟨w.heap.size + 1, 0, none⟩ = some (.slice B m c2) := by simp [World.cell?, hG]
 have hby : ∀ W', Ext W W' → Calls Try.prog 133 (#[.agg #[.slice s.D s.q s.cd, .int .i64 s.k]] ++ #[.pointer (some ⟨w.heap.size + 1, 0, none⟩)]) W' fun e w' => ∃ s' : St, e = .returned (.agg #[.slice s'.D s'.q s'.cd, .int .i64 s'.k]) ∧
   (s'.q = s.q + m ∧ s'.k = s.k ∧ s'.d = s.d ++ b) ∧ StOK w' s' ∧ (s'.d ≠ [] → ∀ a, s'.D = some a → a.block < W.heap.size ∨ W'.heap.size ≤ a.block) ∧ Ext W' w' := fun W' hx =>
  (appendc_any (w.heap.size + 1) s.D B s.q s.cd m c2 s.k s.d b W' (hx.cell hgc) ((hsok.ext hW).ext hx) ((hB.ext hW).ext hx) hm).mono fun e w' ⟨A', c', he, hV, hfar, hx'⟩ =>
   ⟨⟨A', s.q + m, c', s.k, s.d ++ b⟩, he, ⟨rfl, rfl, rfl⟩, hV, fun hd a ha => by
    rcases hfar hd a ha with ⟨h1, h2⟩ | h
    ·exact .inl ((hsok.ext hW).low h2 a (h1 ▸ ha))
    ·exact .inr h, hx'⟩
 go_wp2_with fail
 refine (turn_row1 R A0 A1 n0 c0 n1 c1 i l s 133 #[.pointer (some ⟨w.heap.size + 1, 0, none⟩)] (fun s' => s'.q = s.q + m ∧ s'.k = s.k ∧ s'.d = s.d ++ b) W (hrow.ext hW) hs hn0 hn1 Try.call133 hby).mono ?_
 rintro e w1 ⟨A', c', s', rfl, hr, hg, hx1⟩
 replace hO := heap_ext hO hx1
 replace hW := hW.trans hx1
 clear hby e0 e1 e2 hgc hE hG
 have d0 : w1.cell? ⟨w.heap.size + 1 + 1, 0, none⟩ = some (.int .u64 0) := by simp [World.cell?, hO]
 have df0 : w1.frozen? ⟨w.heap.size + 1 + 1, 0, none⟩ = false := by simp [World.frozen?, hO]
 have d1 : w1.cell? ⟨w.heap.size + 1 + 1, 1, none⟩ = some (.slice none 0 0) := by simp [World.cell?, hO]
 have df1 : w1.frozen? ⟨w.heap.size + 1 + 1, 1, none⟩ = false := by simp [World.frozen?, hO]
 have d2 : w1.cell? ⟨w.heap.size + 1 + 1, 2, none⟩ = some (.slice none 0 0) := by simp [World.cell?, hO]
 have df2 : w1.frozen? ⟨w.heap.size + 1 + 1, 2, none⟩ = false := by simp [World.frozen?, hO]
 have hr2 := fun vs => hr.box hO (fun v hv => diskish_three v hv rfl rfl rfl) 0 vs
 clear hO hr
 go_wp2
 refine bodyPost_ret (v := .tuple #[.agg #[.int .u64 R, .slice A0 n0 c0, .slice A' n1 c'], .int .i64 0]) (by simp [results, Try.results76, go_sem, d0, d1, d2]) rfl ⟨A', c', s', rfl, ?_, hg, ?_⟩
 ·exact hr2 [.int .u64 R, .slice A0 n0 c0, .slice A' n1 c']
 ·exact setAll_ext (g := w.heap.size + 1 + 1) (vs := [.int .u64 R, .slice A0 n0 c0, .slice A' n1 c']) (i := 0) hW (by omega)
set_option maxRecDepth 100000 in
set_option maxHeartbeats 1000000 in
theorem dsync_row0 (R : Int) (A0 A1 : Option Addr) (n0 c0 n1 c1 : Nat) (i : Nat) (l : List St) (s : St) (w : World) (hrow : RowV w A0 n0 c0 l) (hs : l[i]? = some s) (hn0 : n0 ≤ 65536) (hn1 : n1 ≤ 65536) (hq : s.q ≤ 9223372036854775807) :
  Calls Try.prog 78 #[.agg #[.int .u64 R, .slice A0 n0 c0, .slice A1 n1 c1], .int .i64 0, .int .i64 i] w fun e w' =>
   ∃ (A' : Option Addr) (c' : Nat) (s' : St), e = .returned (.tuple #[.agg #[.int .u64 R, .slice A' n0 c', .slice A1 n1 c1], .int .i64 0]) ∧ RowV w' A' n0 c' (l.set i s') ∧ (s'.q = s.q ∧ s'.k = (s.q : Int) ∧ s'.d = s.d) ∧ Ext w w' := by
 have hsok := hrow.ok s (List.mem_of_getElem? hs)
 go_enter Try.func78, Try.ntmps78
 go_upto_region 1 with (fail)
 obtain ⟨hW, hE, hO⟩ := two_boxes7 w (.cells #[.int .u64 R, .slice A0 n0 c0, .slice A1 n1 c1] 49) (.cells #[.int .u64 0, .slice none 0 0, .slice none 0 0] 49)
 generalize (w.alloc (.cells #[.int .u64 R, .slice A0 n0 c0, .slice A1 n1 c1] 49)).alloc (.cells #[.int .u64 0, .slice none 0 0, .slice none 0 0] 49) = W at *
 have e0 : W.cell? ⟨w.heap.size, 0, none⟩ = some (.int .u64 R) := by simp [World.cell?, hE]
 have e1 : W.cell? ⟨w.heap.size, 1, none⟩ = some (.slice A0 n0 c0) := by simp [World.cell?, hE]
 have e2 : W.cell? ⟨w.heap.size, 2, none⟩ = some (.slice A1 n1 c1) := by simp [World.cell?, hE]
 have hby : ∀ W', Ext W W' → Calls Try.prog 93 (#[.agg #[.slice s.D s.q s.cd, .int .i64 s.k]] ++ #[]) W' fun e w' => ∃ s' : St, e = .returned (.agg #[.slice s'.D s'.q s'.cd, .int .i64 s'.k]) ∧
   (s'.q = s.q ∧ s'.k = (s.q : Int) ∧ s'.d = s.d) ∧ StOK w' s' ∧ (s'.d ≠ [] → ∀ a, s'.D = some a → a.block < W.heap.size ∨ W'.heap.size ≤ a.block) ∧ Ext W' w' := fun W' hx =>
  (sync_any s.D s.q s.cd s.k hq W').mono fun e w' ⟨he, hx'⟩ =>
   ⟨⟨s.D, s.q, s.cd, s.q, s.d⟩, he, ⟨rfl, rfl, rfl⟩, ((hsok.ext hW).ext hx).ext hx', fun hd a ha => .inl ((hsok.ext hW).low hd a ha), hx'⟩
 go_wp2_with fail
 refine (turn_row0 R A0 A1 n0 c0 n1 c1 i l s 93 #[] (fun s' => s'.q = s.q ∧ s'.k = (s.q : Int) ∧ s'.d = s.d) W (hrow.ext hW) hs hn0 hn1 Try.call93 hby).mono ?_
 rintro e w1 ⟨A', c', s', rfl, hr, hg, hx1⟩
 replace hO := heap_ext hO hx1
 replace hW := hW.trans hx1
 clear hby e0 e1 e2 hE
 have d0 : w1.cell? ⟨w.heap.size + 1, 0, none⟩ = some (.int .u64 0) := by simp [World.cell?, hO]
 have df0 : w1.frozen? ⟨w.heap.size + 1, 0, none⟩ = false := by simp [World.frozen?, hO]
 have d1 : w1.cell? ⟨w.heap.size + 1, 1, none⟩ = some (.slice none 0 0) := by simp [World.cell?, hO]
 have df1 : w1.frozen? ⟨w.heap.size + 1, 1, none⟩ = false := by simp [World.frozen?, hO]
 have d2 : w1.cell? ⟨w.heap.size + 1, 2, none⟩ = some (.slice none 0 0) := by simp [World.cell?, hO]
 have df2 : w1.frozen? ⟨w.heap.size + 1, 2, none⟩ = false := by simp [World.frozen?, hO]
 have hr2 := fun vs => hr.box hO (fun v hv => diskish_three v hv rfl rfl rfl) 0 vs
 clear hO hr
 go_wp2
 refine bodyPost_ret (v := .tuple #[.agg #[.int .u64 R, .slice A' n0 c', .slice A1 n1 c1], .int .i64 0]) (by simp [results, Try.results78, go_sem, d0, d1, d2]) rfl ⟨A', c', s', rfl, ?_, hg, ?_⟩
 ·exact hr2 [.int .u64 R, .slice A' n0 c', .slice A1 n1 c1]
 ·exact setAll_ext (g := w.heap.size + 1) (vs := [.int .u64 R, .slice A' n0 c', .slice A1 n1 c1]) (i := 0) hW (by omega)
set_option maxRecDepth 100000 in
set_option maxHeartbeats 1000000 in
theorem dread_row0 (R : Int) (A0 A1 : Option Addr) (n0 c0 n1 c1 : Nat) (i : Nat) (l : List St) (s : St) (w : World) (hrow : RowV w A0 n0 c0 l) (hs : l[i]? = some s) (hn0 : n0 ≤ 65536) (hn1 : n1 ≤ 65536) (hq : s.q ≤ 65536) :
  Calls Try.prog 80 #[.agg #[.int .u64 R, .slice A0 n0 c0, .slice A1 n1 c1], .int .i64 0, .int .i64 i] w fun e w' =>
   ∃ (A' : Option Addr) (c' : Nat), e = .returned (.tuple #[.slice A' s.q c', .int .i64 0]) ∧ BytesV w' A' s.q c' s.d ∧ Ext w w' := by
 have hil : i < l.length := (List.getElem?_eq_some_iff.1 hs).1
 have hlen := hrow.len
 have hin : i < n0 := by omega
 have hini : (i : Int) < (n0 : Int) := by omega
 obtain ⟨a, rfl, ha0, -, hsok⟩ := hrow.at hs
 have hW : Ext w (w.alloc (.cells #[.int .u64 R, .slice (some a) n0 c0, .slice A1 n1 c1] 49)) := (Below.refl _ w).alloc (Nat.le_refl _) _
 have hE : (w.alloc (.cells #[.int .u64 R, .slice (some a) n0 c0, .slice A1 n1 c1] 49)).heap[w.heap.size]? = some (.cells #[.int .u64 R, .slice (some a) n0 c0, .slice A1 n1 c1] 49 (0, 0)) := heap_alloc_new w _
 go_enter Try.func80, Try.ntmps80
 go_upto_region 1 with (fail)
 generalize w.alloc (.cells #[.int .u64 R, .slice (some a) n0 c0, .slice A1 n1 c1] 49) = W at *
 have e0 : W.cell? ⟨w.heap.size, 0, none⟩ = some (.int .u64 R) := by simp [World.cell?, hE]
 have e1 : W.cell? ⟨w.heap.size, 1, none⟩ = some (.slice (some a) n0 c0) := by simp [World.cell?, hE]
 have e2 : W.cell? ⟨w.heap.size, 2, none⟩ = some (.slice A1 n1 c1) := by simp [World.cell?, hE]
 go_wp2_with fail
 refine (is_any7 R _ _ n0 c0 n1 c1 0 i _).mono ?_
 rw [isB_row0 hin]
 rintro e w1 ⟨rfl, hx1⟩
 replace hE := heap_ext hE hx1
 replace hW := hW.trans hx1
 clear e0 e1 e2 hx1
 have e0 : w1.cell? ⟨w.heap.size, 0, none⟩ = some (.int .u64 R) := by simp [World.cell?, hE]
 have e1 : w1.cell? ⟨w.heap.size, 1, none⟩ = some (.slice (some a) n0 c0) := by simp [World.cell?, hE]
 have e2 : w1.cell? ⟨w.heap.size, 2, none⟩ = some (.slice A1 n1 c1) := by simp [World.cell?, hE]
 replace ha0 := hW.cell ha0
 go_wp2_with fail
 refine (clone_bytes s.D s.q s.cd s.d _ (hsok.ext hW) hq).mono ?_
 rintro e w2 ⟨A', c', rfl, hV, hx2⟩
 go_wp2
 refine bodyPost_ret (v := .tuple #[.slice A' s.q c', .int .i64 0]) (by simp [results, Try.results80, go_sem]) rfl ⟨A', c', rfl, hV, hW.trans hx2⟩
set_option maxRecDepth 100000 in
set_option maxHeartbeats 1000000 in
theorem dclear_row0 (R : Int) (A0 A1 : Option Addr) (n0 c0 n1 c1 : Nat) (w : World) (hpos : 0 < n0) (hn0 : n0 ≤ 65536) (hn1 : n1 ≤ 65536) :
  Calls Try.prog 82 #[.agg #[.int .u64 R, .slice A0 n0 c0, .slice A1 n1 c1], .int .i64 0] w fun e w' =>
   ∃ (A' : Option Addr) (c' : Nat), e = .returned (.tuple #[.agg #[.int .u64 R, .slice A' n0 c', .slice A1 n1 c1], .int .i64 0]) ∧ RowV w' A' n0 c' (List.replicate n0 St.zero) ∧ Ext w w' := by
 have hmk := run_mkrow n0 (by omega)
 go_enter Try.func82, Try.ntmps82
 go_upto_region 1 with (fail)
 obtain ⟨hW, hE, hO⟩ := two_boxes7 w (.cells #[.int .u64 R, .slice A0 n0 c0, .slice A1 n1 c1] 49) (.cells #[.int .u64 0, .slice none 0 0, .slice none 0 0] 49)
 generalize (w.alloc (.cells #[.int .u64 R, .slice A0 n0 c0, .slice A1 n1 c1] 49)).alloc (.cells #[.int .u64 0, .slice none 0 0, .slice none 0 0] 49) = W at *
 have e0 : W.cell? ⟨w.heap.size, 0, none⟩ = some (.int .u64 R) := by simp [World.cell?, hE]
 have e1 : W.cell? ⟨w.heap.size, 1, none⟩ = some (.slice A0 n0 c0) := by simp [World.cell?, hE]
 have e2 : W.cell? ⟨w.heap.size, 2, none⟩ = some (.slice A1 n1 c1) := by simp [World.cell?, hE]
 go_wp2_with fail
 refine (is_any7 R A0 A1 n0 c0 n1 c1 0 0 _).mono ?_
 rw [show isB 0 0 n0 n1 = true from isB_row0 (i := 0) hpos]
 rintro e w1 ⟨rfl, hx1⟩
 replace hE := heap_ext hE hx1
 replace hO := heap_ext hO hx1
 replace hW := hW.trans hx1
 clear e0 e1 e2 hx1
 have hlt : w.heap.size + 1 < w1.heap.size := (Array.getElem?_eq_some_iff.1 hO).1
 have e0 : w1.cell? ⟨w.heap.size, 0, none⟩ = some (.int .u64 R) := by simp [World.cell?, hE]
 have ef0 : w1.frozen? ⟨w.heap.size, 0, none⟩ = false := by simp [World.frozen?, hE]
 have e1 : w1.cell? ⟨w.heap.size, 1, none⟩ = some (.slice A0 n0 c0) := by simp [World.cell?, hE]
 have ef1 : w1.frozen? ⟨w.heap.size, 1, none⟩ = false := by simp [World.frozen?, hE]
 have e2 : w1.cell? ⟨w.heap.size, 2, none⟩ = some (.slice A1 n1 c1) := by simp [World.cell?, hE]
 have ef2 : w1.frozen? ⟨w.heap.size, 2, none⟩ = false := by simp [World.frozen?, hE]
 have hne1 : ¬ w.heap.size = w1.heap.size := by omega
 have hlt1 : w.heap.size < w1.heap.size := by omega
 go_upto_region 4 with (fail)
 clear hne1 hlt1
 generalize hC : (rowCells (List.replicate n0 St.zero)).toArray = C at *
 clear e0 e1 e2 ef0 ef1 ef2 hmk
 have hsU' : ∀ p u, (w1.setCell p u).heap.size = w1.heap.size := fun p u => by simp [World.setCell]
 generalize w1.heap.size = gz at *
 have hE2 : (w1.setCell ⟨w.heap.size, 1, none⟩ (.slice (some ⟨gz, 0, none⟩) n0 n0)).heap[w.heap.size]? = some (.cells #[.int .u64 R, .slice (some ⟨gz, 0, none⟩) n0 n0, .slice A1 n1 c1] 49 (0, 0)) := heap_setCell_at hE
 have hO2 : (w1.setCell ⟨w.heap.size, 1, none⟩ (.slice (some ⟨gz, 0, none⟩) n0 n0)).heap[w.heap.size + 1]? = _ := (Below.heap_setCell _ _ _ _ (by simp)).trans hO
 have hsU : (w1.setCell ⟨w.heap.size, 1, none⟩ (.slice (some ⟨gz, 0, none⟩) n0 n0)).heap.size = gz := hsU' _ _
 have hW2 : Ext w (w1.setCell ⟨w.heap.size, 1, none⟩ (.slice (some ⟨gz, 0, none⟩) n0 n0)) := hW.setCell (Nat.le_refl _) _
 generalize w1.setCell ⟨w.heap.size, 1, none⟩ (.slice (some ⟨gz, 0, none⟩) n0 n0) = U at *
 have hx3 : Ext U (U.alloc (.cells C 122)) := (Below.refl _ U).alloc (Nat.le_refl _) _
 have hZ3 : (U.alloc (.cells C 122)).heap[gz]? = some (.cells C 122 (0, 0)) := by rw [← hsU]; exact heap_alloc_new U _
 have hE3 := heap_ext hE2 hx3
 have hO3 := heap_ext hO2 hx3
 have hW3 := hW2.trans hx3
 clear hx3
 generalize U.alloc (.cells C 122) = W3 at *
 have e0 : W3.cell? ⟨w.heap.size, 0, none⟩ = some (.int .u64 R) := by simp [World.cell?, hE3]
 have e1 : W3.cell? ⟨w.heap.size, 1, none⟩ = some (.slice (some ⟨gz, 0, none⟩) n0 n0) := by simp [World.cell?, hE3]
 have e2 : W3.cell? ⟨w.heap.size, 2, none⟩ = some (.slice A1 n1 c1) := by simp [World.cell?, hE3]
 have d0 : W3.cell? ⟨w.heap.size + 1, 0, none⟩ = some (.int .u64 0) := by simp [World.cell?, hO3]
 have df0 : W3.frozen? ⟨w.heap.size + 1, 0, none⟩ = false := by simp [World.frozen?, hO3]
 have d1 : W3.cell? ⟨w.heap.size + 1, 1, none⟩ = some (.slice none 0 0) := by simp [World.cell?, hO3]
 have df1 : W3.frozen? ⟨w.heap.size + 1, 1, none⟩ = false := by simp [World.frozen?, hO3]
 have d2 : W3.cell? ⟨w.heap.size + 1, 2, none⟩ = some (.slice none 0 0) := by simp [World.cell?, hO3]
 have df2 : W3.frozen? ⟨w.heap.size + 1, 2, none⟩ = false := by simp [World.frozen?, hO3]
 clear hE3 hO3 hE hO hE2 hO2
 go_wp2
 refine bodyPost_ret (v := .tuple #[.agg #[.int .u64 R, .slice (some ⟨gz, 0, none⟩) n0 n0, .slice A1 n1 c1], .int .i64 0]) (by simp [results, Try.results82, go_sem, d0, d1, d2]) rfl ⟨_, _, rfl, RowV.made (fr := (0, 0)) (T := 122) ?_ (by simp) (by omega) zero_ok, ?_⟩
 ·rw [hC]
  exact (setAll_other (g := w.heap.size + 1) (k := gz) (by omega) [.int .u64 R, .slice (some ⟨gz, 0, none⟩) n0 n0, .slice A1 n1 c1] 0 W3).trans hZ3
 ·exact setAll_ext (g := w.heap.size + 1) (vs := [.int .u64 R, .slice (some ⟨gz, 0, none⟩) n0 n0, .slice A1 n1 c1]) (i := 0) hW3 (by omega)
set_option maxRecDepth 100000 in
set_option maxHeartbeats 1000000 in
theorem dsync_row1 (R : Int) (A0 A1 : Option Addr) (n0 c0 n1 c1 : Nat) (i : Nat) (l : List St) (s : St) (w : World) (hrow : RowV w A1 n1 c1 l) (hs : l[i]? = some s) (hn0 : n0 ≤ 65536) (hn1 : n1 ≤ 65536) (hq : s.q ≤ 9223372036854775807) :
  Calls Try.prog 78 #[.agg #[.int .u64 R, .slice A0 n0 c0, .slice A1 n1 c1], .int .i64 1, .int .i64 i] w fun e w' =>
   ∃ (A' : Option Addr) (c' : Nat) (s' : St), e = .returned (.tuple #[.agg #[.int .u64 R, .slice A0 n0 c0, .slice A' n1 c'], .int .i64 0]) ∧ RowV w' A' n1 c' (l.set i s') ∧ (s'.q = s.q ∧ s'.k = (s.q : Int) ∧ s'.d = s.d) ∧ Ext w w' := by
 have hsok := hrow.ok s (List.mem_of_getElem? hs)
 go_enter Try.func78, Try.ntmps78
 go_upto_region 1 with (fail)
 obtain ⟨hW, hE, hO⟩ := two_boxes7 w (.cells #[.int .u64 R, .slice A0 n0 c0, .slice A1 n1 c1] 49) (.cells #[.int .u64 0, .slice none 0 0, .slice none 0 0] 49)
 generalize (w.alloc (.cells #[.int .u64 R, .slice A0 n0 c0, .slice A1 n1 c1] 49)).alloc (.cells #[.int .u64 0, .slice none 0 0, .slice none 0 0] 49) = W at *
 have e0 : W.cell? ⟨w.heap.size, 0, none⟩ = some (.int .u64 R) := by simp [World.cell?, hE]
 have e1 : W.cell? ⟨w.heap.size, 1, none⟩ = some (.slice A0 n0 c0) := by simp [World.cell?, hE]
 have e2 : W.cell? ⟨w.heap.size, 2, none⟩ = some (.slice A1 n1 c1) := by simp [World.cell?, hE]
 have hby : ∀ W', Ext W W' → Calls Try.prog 93 (#[.agg #[.slice s.D s.q s.cd, .int .i64 s.k]] ++ #[]) W' fun e w' => ∃ s' : St, e = .returned (.agg #[.slice s'.D s'.q s'.cd, .int .i64 s'.k]) ∧
   (s'.q = s.q ∧ s'.k = (s.q : Int) ∧ s'.d = s.d) ∧ StOK w' s' ∧ (s'.d ≠ [] → ∀ a, s'.D = some a → a.block < W.heap.size ∨ W'.heap.size ≤ a.block) ∧ Ext W' w' := fun W' hx =>
  (sync_any s.D s.q s.cd s.k hq W').mono fun e w' ⟨he, hx'⟩ =>
   ⟨⟨s.D, s.q, s.cd, s.q, s.d⟩, he, ⟨rfl, rfl, rfl⟩, ((hsok.ext hW).ext hx).ext hx', fun hd a ha => .inl ((hsok.ext hW).low hd a ha), hx'⟩
 go_wp2_with fail
 refine (turn_row1 R A0 A1 n0 c0 n1 c1 i l s 93 #[] (fun s' => s'.q = s.q ∧ s'.k = (s.q : Int) ∧ s'.d = s.d) W (hrow.ext hW) hs hn0 hn1 Try.call93 hby).mono ?_
 rintro e w1 ⟨A', c', s', rfl, hr, hg, hx1⟩
 replace hO := heap_ext hO hx1
 replace hW := hW.trans hx1
 clear hby e0 e1 e2 hE
 have d0 : w1.cell? ⟨w.heap.size + 1, 0, none⟩ = some (.int .u64 0) := by simp [World.cell?, hO]
 have df0 : w1.frozen? ⟨w.heap.size + 1, 0, none⟩ = false := by simp [World.frozen?, hO]
 have d1 : w1.cell? ⟨w.heap.size + 1, 1, none⟩ = some (.slice none 0 0) := by simp [World.cell?, hO]
 have df1 : w1.frozen? ⟨w.heap.size + 1, 1, none⟩ = false := by simp [World.frozen?, hO]
 have d2 : w1.cell? ⟨w.heap.size + 1, 2, none⟩ = some (.slice none 0 0) := by simp [World.cell?, hO]
 have df2 : w1.frozen? ⟨w.heap.size + 1, 2, none⟩ = false := by simp [World.frozen?, hO]
 have hr2 := fun vs => hr.box hO (fun v hv => diskish_three v hv rfl rfl rfl) 0 vs
 clear hO hr
 go_wp2
 refine bodyPost_ret (v := .tuple #[.agg #[.int .u64 R, .slice A0 n0 c0, .slice A' n1 c'], .int .i64 0]) (by simp [results, Try.results78, go_sem, d0, d1, d2]) rfl ⟨A', c', s', rfl, ?_, hg, ?_⟩
 ·exact hr2 [.int .u64 R, .slice A0 n0 c0, .slice A' n1 c']
 ·exact setAll_ext (g := w.heap.size + 1) (vs := [.int .u64 R, .slice A0 n0 c0, .slice A' n1 c']) (i := 0) hW (by omega)
set_option maxRecDepth 100000 in
set_option maxHeartbeats 1000000 in
theorem dread_row1 (R : Int) (A0 A1 : Option Addr) (n0 c0 n1 c1 : Nat) (i : Nat) (l : List St) (s : St) (w : World) (hrow : RowV w A1 n1 c1 l) (hs : l[i]? = some s) (hn0 : n0 ≤ 65536) (hn1 : n1 ≤ 65536) (hq : s.q ≤ 65536) :
  Calls Try.prog 80 #[.agg #[.int .u64 R, .slice A0 n0 c0, .slice A1 n1 c1], .int .i64 1, .int .i64 i] w fun e w' =>
   ∃ (A' : Option Addr) (c' : Nat), e = .returned (.tuple #[.slice A' s.q c', .int .i64 0]) ∧ BytesV w' A' s.q c' s.d ∧ Ext w w' := by
 have hil : i < l.length := (List.getElem?_eq_some_iff.1 hs).1
 have hlen := hrow.len
 have hin : i < n1 := by omega
 have hini : (i : Int) < (n1 : Int) := by omega
 obtain ⟨a, rfl, ha0, -, hsok⟩ := hrow.at hs
 have hW : Ext w (w.alloc (.cells #[.int .u64 R, .slice A0 n0 c0, .slice (some a) n1 c1] 49)) := (Below.refl _ w).alloc (Nat.le_refl _) _
 have hE : (w.alloc (.cells #[.int .u64 R, .slice A0 n0 c0, .slice (some a) n1 c1] 49)).heap[w.heap.size]? = some (.cells #[.int .u64 R, .slice A0 n0 c0, .slice (some a) n1 c1] 49 (0, 0)) := heap_alloc_new w _
 go_enter Try.func80, Try.ntmps80
 go_upto_region 1 with (fail)
 generalize w.alloc (.cells #[.int .u64 R, .slice A0 n0 c0, .slice (some a) n1 c1] 49) = W at *
 have e0 : W.cell? ⟨w.heap.size, 0, none⟩ = some (.int .u64 R) := by simp [World.cell?, hE]
 have e1 : W.cell? ⟨w.heap.size, 1, none⟩ = some (.slice A0 n0 c0) := by simp [World.cell?, hE]
 have e2 : W.cell? ⟨w.heap.size, 2, none⟩ = some (.slice (some a) n1 c1) := by simp [World.cell?, hE]
 go_wp2_with fail
 refine (is_any7 R _ _ n0 c0 n1 c1 1 i _).mono ?_
 rw [isB_row1 hin]
 rintro e w1 ⟨rfl, hx1⟩
 replace hE := heap_ext hE hx1
 replace hW := hW.trans hx1
 clear e0 e1 e2 hx1
 have e0 : w1.cell? ⟨w.heap.size, 0, none⟩ = some (.int .u64 R) := by simp [World.cell?, hE]
 have e1 : w1.cell? ⟨w.heap.size, 1, none⟩ = some (.slice A0 n0 c0) := by simp [World.cell?, hE]
 have e2 : w1.cell? ⟨w.heap.size, 2, none⟩ = some (.slice (some a) n1 c1) := by simp [World.cell?, hE]
 replace ha0 := hW.cell ha0
 go_wp2_with fail
 refine (clone_bytes s.D s.q s.cd s.d _ (hsok.ext hW) hq).mono ?_
 rintro e w2 ⟨A', c', rfl, hV, hx2⟩
 go_wp2
 refine bodyPost_ret (v := .tuple #[.slice A' s.q c', .int .i64 0]) (by simp [results, Try.results80, go_sem]) rfl ⟨A', c', rfl, hV, hW.trans hx2⟩
set_option maxRecDepth 100000 in
set_option maxHeartbeats 1000000 in
theorem dclear_row1 (R : Int) (A0 A1 : Option Addr) (n0 c0 n1 c1 : Nat) (w : World) (hpos : 0 < n1) (hn0 : n0 ≤ 65536) (hn1 : n1 ≤ 65536) :
  Calls Try.prog 82 #[.agg #[.int .u64 R, .slice A0 n0 c0, .slice A1 n1 c1], .int .i64 1] w fun e w' =>
   ∃ (A' : Option Addr) (c' : Nat), e = .returned (.tuple #[.agg #[.int .u64 R, .slice A0 n0 c0, .slice A' n1 c'], .int .i64 0]) ∧ RowV w' A' n1 c' (List.replicate n1 St.zero) ∧ Ext w w' := by
 have hmk := run_mkrow n1 (by omega)
 go_enter Try.func82, Try.ntmps82
 go_upto_region 1 with (fail)
 obtain ⟨hW, hE, hO⟩ := two_boxes7 w (.cells #[.int .u64 R, .slice A0 n0 c0, .slice A1 n1 c1] 49) (.cells #[.int .u64 0, .slice none 0 0, .slice none 0 0] 49)
 generalize (w.alloc (.cells #[.int .u64 R, .slice A0 n0 c0, .slice A1 n1 c1] 49)).alloc (.cells #[.int .u64 0, .slice none 0 0, .slice none 0 0] 49) = W at *
 have e0 : W.cell? ⟨w.heap.size, 0, none⟩ = some (.int .u64 R) := by simp [World.cell?, hE]
 have e1 : W.cell? ⟨w.heap.size, 1, none⟩ = some (.slice A0 n0 c0) := by simp [World.cell?, hE]
 have e2 : W.cell? ⟨w.heap.size, 2, none⟩ = some (.slice A1 n1 c1) := by simp [World.cell?, hE]
 go_wp2_with fail
 refine (is_any7 R A0 A1 n0 c0 n1 c1 1 0 _).mono ?_
 rw [show isB 1 0 n0 n1 = true from isB_row1 (i := 0) hpos]
 rintro e w1 ⟨rfl, hx1⟩
 replace hE := heap_ext hE hx1
 replace hO := heap_ext hO hx1
 replace hW := hW.trans hx1
 clear e0 e1 e2 hx1
 have hlt : w.heap.size + 1 < w1.heap.size := (Array.getElem?_eq_some_iff.1 hO).1
 have e0 : w1.cell? ⟨w.heap.size, 0, none⟩ = some (.int .u64 R) := by simp [World.cell?, hE]
 have ef0 : w1.frozen? ⟨w.heap.size, 0, none⟩ = false := by simp [World.frozen?, hE]
 have e1 : w1.cell? ⟨w.heap.size, 1, none⟩ = some (.slice A0 n0 c0) := by simp [World.cell?, hE]
 have ef1 : w1.frozen? ⟨w.heap.size, 1, none⟩ = false := by simp [World.frozen?, hE]
 have e2 : w1.cell? ⟨w.heap.size, 2, none⟩ = some (.slice A1 n1 c1) := by simp [World.cell?, hE]
 have ef2 : w1.frozen? ⟨w.heap.size, 2, none⟩ = false := by simp [World.frozen?, hE]
 have hne1 : ¬ w.heap.size = w1.heap.size := by omega
 have hlt1 : w.heap.size < w1.heap.size := by omega
 go_upto_region 4 with (fail)
 clear hne1 hlt1
 generalize hC : (rowCells (List.replicate n1 St.zero)).toArray = C at *
 clear e0 e1 e2 ef0 ef1 ef2 hmk
 have hsU' : ∀ p u, (w1.setCell p u).heap.size = w1.heap.size := fun p u => by simp [World.setCell]
 generalize w1.heap.size = gz at *
 have hE2 : (w1.setCell ⟨w.heap.size, 2, none⟩ (.slice (some ⟨gz, 0, none⟩) n1 n1)).heap[w.heap.size]? = some (.cells #[.int .u64 R, .slice A0 n0 c0, .slice (some ⟨gz, 0, none⟩) n1 n1] 49 (0, 0)) := heap_setCell_at hE
 have hO2 : (w1.setCell ⟨w.heap.size, 2, none⟩ (.slice (some ⟨gz, 0, none⟩) n1 n1)).heap[w.heap.size + 1]? = _ := (Below.heap_setCell _ _ _ _ (by simp)).trans hO
 have hsU : (w1.setCell ⟨w.heap.size, 2, none⟩ (.slice (some ⟨gz, 0, none⟩) n1 n1)).heap.size = gz := hsU' _ _
 have hW2 : Ext w (w1.setCell ⟨w.heap.size, 2, none⟩ (.slice (some ⟨gz, 0, none⟩) n1 n1)) := hW.setCell (Nat.le_refl _) _
 generalize w1.setCell ⟨w.heap.size, 2, none⟩ (.slice (some ⟨gz, 0, none⟩) n1 n1) = U at *
 have hx3 : Ext U (U.alloc (.cells C 122)) := (Below.refl _ U).alloc (Nat.le_refl _) _
 have hZ3 : (U.alloc (.cells C 122)).heap[gz]? = some (.cells C 122 (0, 0)) := by rw [← hsU]; exact heap_alloc_new U _
 have hE3 := heap_ext hE2 hx3
 have hO3 := heap_ext hO2 hx3
 have hW3 := hW2.trans hx3
 clear hx3
 generalize U.alloc (.cells C 122) = W3 at *
 have e0 : W3.cell? ⟨w.heap.size, 0, none⟩ = some (.int .u64 R) := by simp [World.cell?, hE3]
 have e1 : W3.cell? ⟨w.heap.size, 1, none⟩ = some (.slice A0 n0 c0) := by simp [World.cell?, hE3]
 have e2 : W3.cell? ⟨w.heap.size, 2, none⟩ = some (.slice (some ⟨gz, 0, none⟩) n1 n1) := by simp [World.cell?, hE3]
 have d0 : W3.cell? ⟨w.heap.size + 1, 0, none⟩ = some (.int .u64 0) := by simp [World.cell?, hO3]
 have df0 : W3.frozen? ⟨w.heap.size + 1, 0, none⟩ = false := by simp [World.frozen?, hO3]
 have d1 : W3.cell? ⟨w.heap.size + 1, 1, none⟩ = some (.slice none 0 0) := by simp [World.cell?, hO3]
 have df1 : W3.frozen? ⟨w.heap.size + 1, 1, none⟩ = false := by simp [World.frozen?, hO3]
 have d2 : W3.cell? ⟨w.heap.size + 1, 2, none⟩ = some (.slice none 0 0) := by simp [World.cell?, hO3]
 have df2 : W3.frozen? ⟨w.heap.size + 1, 2, none⟩ = false := by simp [World.frozen?, hO3]
 clear hE3 hO3 hE hO hE2 hO2
 go_wp2
 refine bodyPost_ret (v := .tuple #[.agg #[.int .u64 R, .slice A0 n0 c0, .slice (some ⟨gz, 0, none⟩) n1 n1], .int .i64 0]) (by simp [results, Try.results82, go_sem, d0, d1, d2]) rfl ⟨_, _, rfl, RowV.made (fr := (0, 0)) (T := 122) ?_ (by simp) (by omega) zero_ok, ?_⟩
 ·rw [hC]
  exact (setAll_other (g := w.heap.size + 1) (k := gz) (by omega) [.int .u64 R, .slice A0 n0 c0, .slice (some ⟨gz, 0, none⟩) n1 n1] 0 W3).trans hZ3
 ·exact setAll_ext (g := w.heap.size + 1) (vs := [.int .u64 R, .slice A0 n0 c0, .slice (some ⟨gz, 0, none⟩) n1 n1]) (i := 0) hW3 (by omega)
set_option maxRecDepth 100000 in
set_option maxHeartbeats 1000000 in
theorem dread_no (R : Int) (A0 A1 : Option Addr) (n0 c0 n1 c1 : Nat) (row i : Int) (w : World) (hno : isB row i n0 n1 = false) :
  Calls Try.prog 80 #[.agg #[.int .u64 R, .slice A0 n0 c0, .slice A1 n1 c1], .int .i64 row, .int .i64 i] w fun e w' => e = .returned (.tuple #[.slice none 0 0, .int .i64 1]) ∧ Ext w w' := by
 have hW : Ext w (w.alloc (.cells #[.int .u64 R, .slice A0 n0 c0, .slice A1 n1 c1] 49)) := (Below.refl _ w).alloc (Nat.le_refl _) _
 go_enter Try.func80, Try.ntmps80
 go_wp2_with fail
 refine (is_any7 R A0 A1 n0 c0 n1 c1 row i _).mono ?_
 rw [hno]
 rintro e w1 ⟨rfl, hx1⟩
 go_wp2
 refine bodyPost_ret (v := .tuple #[.slice none 0 0, .int .i64 1]) (by simp [results, Try.results80, go_sem]) rfl ⟨rfl, hW.trans hx1⟩
set_option maxRecDepth 100000 in
set_option maxHeartbeats 1000000 in
theorem dappend_no (R : Int) (A0 A1 : Option Addr) (n0 c0 n1 c1 : Nat) (row i : Int) (B : Option Addr) (m c2 : Nat) (w : World) (hno : isB row i n0 n1 = false) :
  Calls Try.prog 76 #[.agg #[.int .u64 R, .slice A0 n0 c0, .slice A1 n1 c1], .int .i64 row, .int .i64 i, .slice B m c2] w fun e w' => e = .returned (.tuple #[.agg #[.int .u64 R, .slice A0 n0 c0, .slice A1 n1 c1], .int .i64 1]) ∧ Ext w w' := by
 have hmf : ∀ (fn : Fn) (first cap : Array Value) (w : World), (Instr.makeFunc fn first cap).run Try.prog w = .ok (.func fn first cap) w := fun _ _ _ _ => rfl
 go_enter Try.func76, Try.ntmps76
 go_upto_region 1 with (fail)
 obtain ⟨hW, -, hE, hG, hO⟩ := three_boxes7 w (.cells #[.int .u64 R, .slice A0 n0 c0, .slice A1 n1 c1] 49) (.cells #[.slice B m c2] 30) (.cells #[.int .u64 0, .slice none 0 0, .slice none 0 0] 49)
 generalize ((w.alloc (.cells #[.int .u64 R, .slice A0 n0 c0, .slice A1 n1 c1] 49)).alloc (.cells #[.slice B m c2] 30)).alloc (.cells #[.int .u64 0, .slice none 0 0, .slice none 0 0] 49) = W at *
 have e0 : W.cell? ⟨w.heap.size, 0, none⟩ = some (.int .u64 R) := by simp [World.cell?, hE]
 have e1 : W.cell? ⟨w.heap.size, 1, none⟩ = some (.slice A0 n0 c0) := by simp [World.cell?, hE]
 have e2 : W.cell? ⟨w.heap.size, 2, none⟩ = some (.slice A1 n1 c1) := by simp [World.cell?, hE]
 go_wp2_with fail
 refine (turn_no R A0 A1 n0 c0 n1 c1 row i 133 #[.pointer (some ⟨w.heap.size + 1, 0, none⟩)] W hno).mono ?_
 rintro e w1 ⟨rfl, hx1⟩
 replace hO := heap_ext hO hx1
 replace hW := hW.trans hx1
 clear e0 e1 e2 hE
 have d0 : w1.cell? ⟨w.heap.size + 1 + 1, 0, none⟩ = some (.int .u64 0) := by simp [World.cell?, hO]
 have df0 : w1.frozen? ⟨w.heap.size + 1 + 1, 0, none⟩ = false := by simp [World.frozen?, hO]
 have d1 : w1.cell? ⟨w.heap.size + 1 + 1, 1, none⟩ = some (.slice none 0 0) := by simp [World.cell?, hO]
 have df1 : w1.frozen? ⟨w.heap.size + 1 + 1, 1, none⟩ = false := by simp [World.frozen?, hO]
 have d2 : w1.cell? ⟨w.heap.size + 1 + 1, 2, none⟩ = some (.slice none 0 0) := by simp [World.cell?, hO]
 have df2 : w1.frozen? ⟨w.heap.size + 1 + 1, 2, none⟩ = false := by simp [World.frozen?, hO]
 clear hO
 go_wp2
 refine bodyPost_ret (v := .tuple #[.agg #[.int .u64 R, .slice A0 n0 c0, .slice A1 n1 c1], .int .i64 1]) (by simp [results, Try.results76, go_sem, d0, d1, d2]) rfl ⟨rfl, ?_⟩
 exact setAll_ext (g := w.heap.size + 1 + 1) (vs := [.int .u64 R, .slice A0 n0 c0, .slice A1 n1 c1]) (i := 0) hW (by omega)
set_option maxRecDepth 100000 in
set_option maxHeartbeats 1000000 in
theorem dsync_no (R : Int) (A0 A1 : Option Addr) (n0 c0 n1 c1 : Nat) (row i : Int) (w : World) (hno : isB row i n0 n1 = false) :
  Calls Try.prog 78 #[.agg #[.int .u64 R, .slice A0 n0 c0, .slice A1 n1 c1], .int .i64 row, .int .i64 i] w fun e w' => e = .returned (.tuple #[.agg #[.int .u64 R, .slice A0 n0 c0, .slice A1 n1 c1], .int .i64 1]) ∧ Ext w w' := by
 have hmf : ∀ (fn : Fn) (first cap : Array Value) (w : World), (Instr.makeFunc fn first cap).run Try.prog w = .ok (.func fn first cap) w := fun _ _ _ _ => rfl
 go_enter Try.func78, Try.ntmps78
 go_upto_region 1 with (fail)
 obtain ⟨hW, hE, hO⟩ := two_boxes7 w (.cells #[.int .u64 R, .slice A0 n0 c0, .slice A1 n1 c1] 49) (.cells #[.int .u64 0, .slice none 0 0, .slice none 0 0] 49)
 generalize (w.alloc (.cells #[.int .u64 R, .slice A0 n0 c0, .slice A1 n1 c1] 49)).alloc (.cells #[.int .u64 0, .slice none 0 0, .slice none 0 0] 49) = W at *
 have e0 : W.cell? ⟨w.heap.size, 0, none⟩ = some (.int .u64 R) := by simp [World.cell?, hE]
 have e1 : W.cell? ⟨w.heap.size, 1, none⟩ = some (.slice A0 n0 c0) := by simp [World.cell?, hE]
 have e2 : W.cell? ⟨w.heap.size, 2, none⟩ = some (.slice A1 n1 c1) := by simp [World.cell?, hE]
 go_wp2_with fail
 refine (turn_no R A0 A1 n0 c0 n1 c1 row i 93 #[] W hno).mono ?_
 rintro e w1 ⟨rfl, hx1⟩
 replace hO := heap_ext hO hx1
 replace hW := hW.trans hx1
 clear e0 e1 e2 hE
 have d0 : w1.cell? ⟨w.heap.size + 1, 0, none⟩ = some (.int .u64 0) := by simp [World.cell?, hO]
 have df0 : w1.frozen? ⟨w.heap.size + 1, 0, none⟩ = false := by simp [World.frozen?, hO]
 have d1 : w1.cell? ⟨w.heap.size + 1, 1, none⟩ = some (.slice none 0 0) := by simp [World.cell?, hO]
 have df1 : w1.frozen? ⟨w.heap.size + 1, 1, none⟩ = false := by simp [World.frozen?, hO]
 have d2 : w1.cell? ⟨w.heap.size + 1, 2, none⟩ = some (.slice none 0 0) := by simp [World.cell?, hO]
 have df2 : w1.frozen? ⟨w.heap.size + 1, 2, none⟩ = false := by simp [World.frozen?, hO]
 clear hO
 go_wp2
 refine bodyPost_ret (v := .tuple #[.agg #[.int .u64 R, .slice A0 n0 c0, .slice A1 n1 c1], .int .i64 1]) (by simp [results, Try.results78, go_sem, d0, d1, d2]) rfl ⟨rfl, ?_⟩
 exact setAll_ext (g := w.heap.size + 1) (vs := [.int .u64 R, .slice A0 n0 c0, .slice A1 n1 c1]) (i := 0) hW (by omega)
set_option maxRecDepth 100000 in
set_option maxHeartbeats 1000000 in
theorem dclear_no (R : Int) (A0 A1 : Option Addr) (n0 c0 n1 c1 : Nat) (row : Int) (w : World) (hno : isB row 0 n0 n1 = false) :
  Calls Try.prog 82 #[.agg #[.int .u64 R, .slice A0 n0 c0, .slice A1 n1 c1], .int .i64 row] w fun e w' => e = .returned (.tuple #[.agg #[.int .u64 R, .slice A0 n0 c0, .slice A1 n1 c1], .int .i64 1]) ∧ Ext w w' := by
 go_enter Try.func82, Try.ntmps82
 go_upto_region 1 with (fail)
 obtain ⟨hW, hE, hO⟩ := two_boxes7 w (.cells #[.int .u64 R, .slice A0 n0 c0, .slice A1 n1 c1] 49) (.cells #[.int .u64 0, .slice none 0 0, .slice none 0 0] 49)
 generalize (w.alloc (.cells #[.int .u64 R, .slice A0 n0 c0, .slice A1 n1 c1] 49)).alloc (.cells #[.int .u64 0, .slice none 0 0, .slice none 0 0] 49) = W at *
 have e0 : W.cell? ⟨w.heap.size, 0, none⟩ = some (.int .u64 R) := by simp [World.cell?, hE]
 have e1 : W.cell? ⟨w.heap.size, 1, none⟩ = some (.slice A0 n0 c0) := by simp [World.cell?, hE]
 have e2 : W.cell? ⟨w.heap.size, 2, none⟩ = some (.slice A1 n1 c1) := by simp [World.cell?, hE]
 go_wp2_with fail
 refine (is_any7 R A0 A1 n0 c0 n1 c1 row 0 _).mono ?_
 rw [hno]
 rintro e w1 ⟨rfl, hx1⟩
 replace hE := heap_ext hE hx1
 replace hO := heap_ext hO hx1
 replace hW := hW.trans hx1
 clear e0 e1 e2 hx1
 have e0 : w1.cell? ⟨w.heap.size, 0, none⟩ = some (.int .u64 R) := by simp [World.cell?, hE]
 have e1 : w1.cell? ⟨w.heap.size, 1, none⟩ = some (.slice A0 n0 c0) := by simp [World.cell?, hE]
 have e2 : w1.cell? ⟨w.heap.size, 2, none⟩ = some (.slice A1 n1 c1) := by simp [World.cell?, hE]
 have d0 : w1.cell? ⟨w.heap.size + 1, 0, none⟩ = some (.int .u64 0) := by simp [World.cell?, hO]
 have df0 : w1.frozen? ⟨w.heap.size + 1, 0, none⟩ = false := by simp [World.frozen?, hO]
 have d1 : w1.cell? ⟨w.heap.size + 1, 1, none⟩ = some (.slice none 0 0) := by simp [World.cell?, hO]
 have df1 : w1.frozen? ⟨w.heap.size + 1, 1, none⟩ = false := by simp [World.frozen?, hO]
 have d2 : w1.cell? ⟨w.heap.size + 1, 2, none⟩ = some (.slice none 0 0) := by simp [World.cell?, hO]
 have df2 : w1.frozen? ⟨w.heap.size + 1, 2, none⟩ = false := by simp [World.frozen?, hO]
 clear hE hO
 go_wp2
 refine bodyPost_ret (v := .tuple #[.agg #[.int .u64 R, .slice A0 n0 c0, .slice A1 n1 c1], .int .i64 1]) (by simp [results, Try.results82, go_sem, d0, d1, d2]) rfl ⟨rfl, ?_⟩
 exact setAll_ext (g := w.heap.size + 1) (vs := [.int .u64 R, .slice A0 n0 c0, .slice A1 n1 c1]) (i := 0) hW (by omega)
set_option maxRecDepth 100000 in
theorem drow_any (R : Nat) (v1 v2 : Value) (w : World) (hR : R < 18446744073709551616) :
  Calls Try.prog 84 #[.agg #[.int .u64 (R : Int), v1, v2]] w fun e w' => e = .returned (.int .i64 ((R % 2 : Nat) : Int)) ∧ Ext w w' := by
 have hW : Ext w (w.alloc (.cells #[.int .u64 (R : Int), v1, v2] 49)) := (Below.refl _ w).alloc (Nat.le_refl _) _
 have hm : Int.tmod (R : Int) 2 = ((R % 2 : Nat) : Int) := by rw [Int.tmod_eq_emod_of_nonneg (by omega)]; omega
 have hw1 : IntKind.u64.wrap ((R % 2 : Nat) : Int) = ((R % 2 : Nat) : Int) := by rw [IntKind.wrap_u64]; omega
 have hw2 : IntKind.i64.wrap ((R % 2 : Nat) : Int) = ((R % 2 : Nat) : Int) := by rw [IntKind.wrap_i64]; omega
 generalize hN : R % 2 = N at *
 go_enter Try.func84, Try.ntmps84
 go_wp2
 go_ret
 exact ⟨rfl, hW⟩
set_option maxRecDepth 100000 in
theorem dsetroot_any (R n : Int) (A0 A1 : Option Addr) (n0 c0 n1 c1 : Nat) (w : World) :
  Calls Try.prog 129 #[.agg #[.int .u64 R, .slice A0 n0 c0, .slice A1 n1 c1], .int .u64 n] w fun e w' => e = .returned (.agg #[.int .u64 n, .slice A0 n0 c0, .slice A1 n1 c1]) ∧ Ext w w' := by
 go_enter Try.func129, Try.ntmps129
 go_upto_region 1 with (fail)
 obtain ⟨hW, hE, hO⟩ := two_boxes7 w (.cells #[.int .u64 R, .slice A0 n0 c0, .slice A1 n1 c1] 49) (.cells #[.int .u64 0, .slice none 0 0, .slice none 0 0] 49)
 generalize (w.alloc (.cells #[.int .u64 R, .slice A0 n0 c0, .slice A1 n1 c1] 49)).alloc (.cells #[.int .u64 0, .slice none 0 0, .slice none 0 0] 49) = W at *
 have e0 : W.cell? ⟨w.heap.size, 0, none⟩ = some (.int .u64 R) := by simp [World.cell?, hE]
 have ef0 : W.frozen? ⟨w.heap.size, 0, none⟩ = false := by simp [World.frozen?, hE]
 have e1 : W.cell? ⟨w.heap.size, 1, none⟩ = some (.slice A0 n0 c0) := by simp [World.cell?, hE]
 have ef1 : W.frozen? ⟨w.heap.size, 1, none⟩ = false := by simp [World.frozen?, hE]
 have e2 : W.cell? ⟨w.heap.size, 2, none⟩ = some (.slice A1 n1 c1) := by simp [World.cell?, hE]
 have ef2 : W.frozen? ⟨w.heap.size, 2, none⟩ = false := by simp [World.frozen?, hE]
 have d0 : W.cell? ⟨w.heap.size + 1, 0, none⟩ = some (.int .u64 0) := by simp [World.cell?, hO]
 have df0 : W.frozen? ⟨w.heap.size + 1, 0, none⟩ = false := by simp [World.frozen?, hO]
 have d1 : W.cell? ⟨w.heap.size + 1, 1, none⟩ = some (.slice none 0 0) := by simp [World.cell?, hO]
 have df1 : W.frozen? ⟨w.heap.size + 1, 1, none⟩ = false := by simp [World.frozen?, hO]
 have d2 : W.cell? ⟨w.heap.size + 1, 2, none⟩ = some (.slice none 0 0) := by simp [World.cell?, hO]
 have df2 : W.frozen? ⟨w.heap.size + 1, 2, none⟩ = false := by simp [World.frozen?, hO]
 clear hE hO
 go_wp2
 refine bodyPost_ret (v := .agg #[.int .u64 n, .slice A0 n0 c0, .slice A1 n1 c1]) (by simp [results, Try.results129, go_sem, d0, d1, d2]) rfl ⟨rfl, ?_⟩
 exact setAll_ext (g := w.heap.size + 1) (vs := [.int .u64 n, .slice A0 n0 c0, .slice A1 n1 c1]) (i := 0) (hW.setCell (Nat.le_refl _) _) (by omega)
end Go.Proofs.Ytjokaginolpbeaa

namespace Go.Proofs.Ytjokaginolpbeaa
open Go.RowKit

/-! disk.New, disk.Crash. -/
/-- a box is written, and a row made -/
theorem box_made {w wr : World} {g i : Nat} {u : Value} {cs C : Array Value} {T : TypeId} (hg : wr.heap[g]? = some (.cells cs T (0, 0))) (hx : Ext w wr) (hw : w.heap.size ≤ g) :
    ((wr.setCell ⟨g, i, none⟩ u).alloc (.cells C 122)).heap[g]? = some (.cells (cs.setIfInBounds i u) T (0, 0)) ∧ ((wr.setCell ⟨g, i, none⟩ u).alloc (.cells C 122)).heap[wr.heap.size]? = some (.cells C 122 (0, 0)) ∧
      Ext w ((wr.setCell ⟨g, i, none⟩ u).alloc (.cells C 122)) ∧ ∀ (k : Nat) (o : Obj), k ≠ g → wr.heap[k]? = some o → ((wr.setCell ⟨g, i, none⟩ u).alloc (.cells C 122)).heap[k]? = some o := by
  have h1 : (wr.setCell ⟨g, i, none⟩ u).heap[g]? = some (.cells (cs.setIfInBounds i u) T (0, 0)) := heap_setCell_at hg
  have hs : (wr.setCell ⟨g, i, none⟩ u).heap.size = wr.heap.size := by simp [World.setCell]
  have hx2 : Ext (wr.setCell ⟨g, i, none⟩ u) ((wr.setCell ⟨g, i, none⟩ u).alloc (.cells C 122)) := (Below.refl _ _).alloc (Nat.le_refl _) _
  refine ⟨heap_ext h1 hx2, by rw [← hs]; exact heap_alloc_new _ _, Ext.trans (show Ext w (wr.setCell ⟨g, i, none⟩ u) from hx.setCell hw _) hx2, fun k o hk ho => heap_ext ?_ hx2⟩
  rw [Below.heap_setCell _ _ _ _ hk]; exact ho
end Go.Proofs.Ytjokaginolpbeaa

namespace Go.Proofs.Ytjokaginolpbeaa
open Go.RowKit

/-! slices.Grow and slices.Concat at rows of streams; disk.Right. -/
/-- is a stream right? -/
def St.right (s : St) : Bool := rightB s.k s.q
/-- is a disk right? -/
def rightD (n0 n1 : Nat) (l0 l1 : List St) : Bool := decide (1 ≤ n0 ∧ n0 ≤ 64 ∧ n1 = n0) && (l0 ++ l1).all St.right
end Go.Proofs.Ytjokaginolpbeaa

namespace Go.Proofs.Ytjokaginolpbeaa
open Go.RowKit

/-! Are two rows, two disks the same? -/
/-- a disk's rows, told by keys -/
structure DkV (w : World) (v : Value) (R : Int) (n0 n1 : Nat) (l0 l1 : List St) : Prop where
  form : ∃ (A0 A1 : Option Addr) (c0 c1 : Nat), v = .agg #[.int .u64 R, .slice A0 n0 c0, .slice A1 n1 c1] ∧ RowV w A0 n0 c0 l0 ∧ RowV w A1 n1 c1 l1
theorem DkV.ext {w w' : World} {v : Value} {R : Int} {n0 n1 : Nat} {l0 l1 : List St} (h : DkV w v R n0 n1 l0 l1) (hx : Ext w w') : DkV w' v R n0 n1 l0 l1 := let ⟨A0, A1, c0, c1, e, h0, h1⟩ := h.form; ⟨A0, A1, c0, c1, e, h0.ext hx, h1.ext hx⟩
end Go.Proofs.Ytjokaginolpbeaa

namespace Go.Proofs.Ytjokaginolpbeaa
open Go.RowKit

/-! wealdref07: Few, Right. -/
end Go.Proofs.Ytjokaginolpbeaa

namespace Go.Proofs.Ytjokaginolpbeaa
open Go.RowKit

/-! wealdref06.Append, wealdref06.Cut. -/
end Go.Proofs.Ytjokaginolpbeaa

namespace Go.Proofs.Ytjokaginolpbeaa
open Go.RowKit

/-! wealdref07: what is done with disks. -/
set_option maxRecDepth 100000 in
set_option maxHeartbeats 1000000 in
theorem rnew7_no (t : Int) (w : World) (ht : t < 1 ∨ 64 < t) :
  Calls Try.prog 72 #[.int .i64 t] w fun e w' => e = .returned (.tuple #[.agg #[.int .u64 0, .slice none 0 0, .slice none 0 0], .int .i64 1]) ∧ Ext w w' := by
 have hb : ∀ W : World, (Instr.build 49 #[]).run Try.prog W = .ok (.agg #[.int .u64 0, .slice none 0 0, .slice none 0 0]) W := fun _ => by kernel_rfl
 have hE : Ext w (w.alloc (.cells #[.int .u64 0, .slice none 0 0, .slice none 0 0] 49)) := (Below.refl _ w).alloc (Nat.le_refl _) _
 rcases ht with h | h
 ·go_enter Try.func72, Try.ntmps72
  go_wp2
  refine bodyPost_ret (v := .tuple #[.agg #[.int .u64 0, .slice none 0 0, .slice none 0 0], .int .i64 1]) (by simp [results, Try.results72, go_sem]) rfl ⟨rfl, ?_⟩
  exact hE
 ·have h2 : ¬ t < 1 := by omega
  go_enter Try.func72, Try.ntmps72
  go_wp2
  refine bodyPost_ret (v := .tuple #[.agg #[.int .u64 0, .slice none 0 0, .slice none 0 0], .int .i64 1]) (by simp [results, Try.results72, go_sem]) rfl ⟨rfl, ?_⟩
  exact hE
set_option maxRecDepth 100000 in
set_option maxHeartbeats 4000000 in
theorem rnew7_yes (t : Nat) (w : World) (h1 : 1 ≤ t) (h2 : t ≤ 64) :
  Calls Try.prog 72 #[.int .i64 t] w fun e w' => ∃ (A0 A1 : Option Addr) (c0 c1 : Nat), e = .returned (.tuple #[.agg #[.int .u64 0, .slice A0 t c0, .slice A1 t c1], .int .i64 0]) ∧ RowV w' A0 t c0 (List.replicate t St.zero) ∧ RowV w' A1 t c1 (List.replicate t St.zero) ∧ Ext w w' := by
 have hmk := run_mkrow t (by omega)
 have h1' : ¬ (t : Int) < 1 := by omega
 have h2' : ¬ (64 : Int) < (t : Int) := by omega
 generalize hC : (rowCells (List.replicate t St.zero)).toArray = C at *
 go_enter Try.func72, Try.ntmps72
 go_upto_region 4 with (fail)
 obtain ⟨hW, hE, hO⟩ := two_boxes7 w (.cells #[.int .u64 0, .slice none 0 0, .slice none 0 0] 49) (.cells #[.int .u64 0, .slice none 0 0, .slice none 0 0] 49)
 generalize (w.alloc (.cells #[.int .u64 0, .slice none 0 0, .slice none 0 0] 49)).alloc (.cells #[.int .u64 0, .slice none 0 0, .slice none 0 0] 49) = wr at *
 have hlt : w.heap.size + 1 < wr.heap.size := (Array.getElem?_eq_some_iff.1 hO).1
 have d0 : wr.cell? ⟨w.heap.size + 1, 0, none⟩ = some (.int .u64 0) := by simp [World.cell?, hO]
 have df0 : wr.frozen? ⟨w.heap.size + 1, 0, none⟩ = false := by simp [World.frozen?, hO]
 have d1 : wr.cell? ⟨w.heap.size + 1, 1, none⟩ = some (.slice none 0 0) := by simp [World.cell?, hO]
 have df1 : wr.frozen? ⟨w.heap.size + 1, 1, none⟩ = false := by simp [World.frozen?, hO]
 have d2 : wr.cell? ⟨w.heap.size + 1, 2, none⟩ = some (.slice none 0 0) := by simp [World.cell?, hO]
 have df2 : wr.frozen? ⟨w.heap.size + 1, 2, none⟩ = false := by simp [World.frozen?, hO]
 have HE := Lib.hid hE
 have HO := Lib.hid hO
 clear hE hO
 have hne1 : ¬ w.heap.size + 1 = wr.heap.size := by omega
 go_upto_region 5 with (fail)
 obtain ⟨b1, b2, b3, b4⟩ := box_made (i := 1) (u := .slice (some ⟨wr.heap.size, 0, none⟩) t t) (C := C) HO.out hW (by omega)
 have hE5 := b4 _ _ (by omega) HE.out
 have hgl : w.heap.size + 1 < wr.heap.size := hlt
 clear b4 HE HO d0 d1 d2 df0 df1 df2 hne1 hlt hW
 generalize (wr.setCell ⟨w.heap.size + 1, 1, none⟩ (.slice (some ⟨wr.heap.size, 0, none⟩) t t)).alloc (.cells C 122) = W5 at *
 generalize wr.heap.size = g0 at *
 clear wr
 have hlt : w.heap.size + 1 < W5.heap.size := (Array.getElem?_eq_some_iff.1 b1).1
 have d0 : W5.cell? ⟨w.heap.size + 1, 0, none⟩ = some (.int .u64 0) := by simp [World.cell?, b1]
 have df0 : W5.frozen? ⟨w.heap.size + 1, 0, none⟩ = false := by simp [World.frozen?, b1]
 have d1 : W5.cell? ⟨w.heap.size + 1, 1, none⟩ = some (.slice (some ⟨g0, 0, none⟩) t t) := by simp [World.cell?, b1]
 have df1 : W5.frozen? ⟨w.heap.size + 1, 1, none⟩ = false := by simp [World.frozen?, b1]
 have d2 : W5.cell? ⟨w.heap.size + 1, 2, none⟩ = some (.slice none 0 0) := by simp [World.cell?, b1]
 have df2 : W5.frozen? ⟨w.heap.size + 1, 2, none⟩ = false := by simp [World.frozen?, b1]
 have HE := Lib.hid hE5
 have HO := Lib.hid b1
 have HG := Lib.hid b2
 clear hE5 b1 b2
 have hne1 : ¬ w.heap.size + 1 = W5.heap.size := by omega
 go_upto_region 6 with (fail)
 obtain ⟨b1, b2, b5, b4⟩ := box_made (i := 2) (u := .slice (some ⟨W5.heap.size, 0, none⟩) t t) (C := C) HO.out b3 (by omega)
 have hE6 := b4 _ _ (by omega) HE.out
 have hg0 := b4 _ _ (by omega) HG.out
 have hgl1 : w.heap.size + 1 < W5.heap.size := hlt
 clear b4 HE HO HG d0 d1 d2 df0 df1 df2 hne1 hlt b3
 generalize (W5.setCell ⟨w.heap.size + 1, 2, none⟩ (.slice (some ⟨W5.heap.size, 0, none⟩) t t)).alloc (.cells C 122) = W6 at *
 generalize W5.heap.size = g1 at *
 clear W5
 have d0 : W6.cell? ⟨w.heap.size + 1, 0, none⟩ = some (.int .u64 0) := by simp [World.cell?, b1]
 have d1 : W6.cell? ⟨w.heap.size + 1, 1, none⟩ = some (.slice (some ⟨g0, 0, none⟩) t t) := by simp [World.cell?, b1]
 have d2 : W6.cell? ⟨w.heap.size + 1, 2, none⟩ = some (.slice (some ⟨g1, 0, none⟩) t t) := by simp [World.cell?, b1]
 have e0 : W6.cell? ⟨w.heap.size, 0, none⟩ = some (.int .u64 0) := by simp [World.cell?, hE6]
 have ef0 : W6.frozen? ⟨w.heap.size, 0, none⟩ = false := by simp [World.frozen?, hE6]
 have e1 : W6.cell? ⟨w.heap.size, 1, none⟩ = some (.slice none 0 0) := by simp [World.cell?, hE6]
 have ef1 : W6.frozen? ⟨w.heap.size, 1, none⟩ = false := by simp [World.frozen?, hE6]
 have e2 : W6.cell? ⟨w.heap.size, 2, none⟩ = some (.slice none 0 0) := by simp [World.cell?, hE6]
 have ef2 : W6.frozen? ⟨w.heap.size, 2, none⟩ = false := by simp [World.frozen?, hE6]
 clear b1 hE6
 go_wp2
 refine bodyPost_ret (v := .tuple #[.agg #[.int .u64 0, .slice (some ⟨g0, 0, none⟩) t t, .slice (some ⟨g1, 0, none⟩) t t], .int .i64 0]) (by simp [results, Try.results72, go_sem, e0, e1, e2]) rfl ⟨_, _, _, _, rfl, RowV.made (fr := (0, 0)) (T := 122) ?_ (by simp) (by omega) zero_ok, RowV.made (fr := (0, 0)) (T := 122) ?_ (by simp) (by omega) zero_ok, ?_⟩
 ·rw [hC]
  exact (setAll_other (g := w.heap.size) (k := g0) (by omega) [.int .u64 0, .slice (some ⟨g0, 0, none⟩) t t, .slice (some ⟨g1, 0, none⟩) t t] 0 W6).trans hg0
 ·rw [hC]
  exact (setAll_other (g := w.heap.size) (k := g1) (by omega) [.int .u64 0, .slice (some ⟨g0, 0, none⟩) t t, .slice (some ⟨g1, 0, none⟩) t t] 0 W6).trans b2
 ·exact setAll_ext (g := w.heap.size) (vs := [.int .u64 0, .slice (some ⟨g0, 0, none⟩) t t, .slice (some ⟨g1, 0, none⟩) t t]) (i := 0) b5 (Nat.le_refl _)
end Go.Proofs.Ytjokaginolpbeaa

namespace Go.Proofs.Ytjokaginolpbeaa
open Go.RowKit

/-! what a stream holds, and how much of it is synced; and operations of regions that draw. -/
/-- numbers in a row -/
structure IntsV (w : World) (M : Option Addr) (n c : Nat) (ms : List Int) : Prop where
  len : ms.length = n
  le : n ≤ c
  at_ : ∀ j z, ms[j]? = some z → ∃ a, M = some a ∧ w.cell? (a.add j) = some (.int .i64 z)
theorem IntsV.ext {w w' : World} {M : Option Addr} {n c : Nat} {ms : List Int} (h : IntsV w M n c ms) (hx : Ext w w') : IntsV w' M n c ms := ⟨h.len, h.le, fun j z hj => let ⟨a, ha, hc⟩ := h.at_ j z hj; ⟨a, ha, hx.cell hc⟩⟩
abbrev Key := List UInt8 × Int
theorem extS_base {W wr wx : World} {gB : Nat} (h : Ext W wr) (hx : SB.ExtS [gB] wr.drew wx) (hg : W.heap.size ≤ gB) : Ext W wx := by
  have h2 : Ext W wr.drew := h.trans (Ext.refl _).drew
  exact ⟨hx.os.trans h2.os, hx.tape.trans h2.tape, hx.output.trans h2.output, Nat.le_trans h2.size hx.size, fun k hk => (hx.block k (Nat.lt_of_lt_of_le hk h2.size) (by simp; omega)).trans (h2.block k hk)⟩
theorem SB.op_buildSlice {P : Program} {Pn : List PanicEntry → World → Prop} {ρ : Operand → Value} {o : Oper} {w w' : World} {K : Value → World → Prop} {t : TypeId} {len : Nat} {parts : Array (Nat × Operand)} {v : Value}
    (ho : o.op = .buildSlice t len parts) (hr : (Instr.buildSlice t len (parts.map fun (i, x) => (i, ρ x))).run P w = .ok v w') (h : K v w') : SB.runs P Pn ρ o w K := by
  unfold SB.runs execOp
  simp only [ho, Sem.run_bind, Sem.run_pure, hr, Result.andThen_ok]
  exact h
end Go.Proofs.Ytjokaginolpbeaa

namespace Go.Proofs.Ytjokaginolpbeaa
open Go.RowKit

/-! disk.* and wealdref07.*, for every row and number, told by what streams hold. -/
/-- a disk, told by what its streams hold -/
def DkK (w : World) (v : Value) (R : Int) (n : Nat) (K0 K1 : List Key) : Prop := ∃ (l0 l1 : List St), DkV w v R n n l0 l1 ∧ l0.map St.key = K0 ∧ l1.map St.key = K1
theorem DkK.ext {w w' : World} {v : Value} {R : Int} {n : Nat} {K0 K1 : List Key} (h : DkK w v R n K0 K1) (hx : Ext w w') : DkK w' v R n K0 K1 := let ⟨l0, l1, h0, h1, h2⟩ := h; ⟨l0, l1, h0.ext hx, h1, h2⟩
theorem DkK.len {w : World} {v : Value} {R : Int} {n : Nat} {K0 K1 : List Key} (h : DkK w v R n K0 K1) : K0.length = n ∧ K1.length = n := by
  obtain ⟨l0, l1, ⟨A0, A1, c0, c1, rfl, h0, h1⟩, rfl, rfl⟩ := h
  exact ⟨by rw [List.length_map]; exact h0.len, by rw [List.length_map]; exact h1.len⟩
theorem DkK.form {w : World} {v : Value} {R : Int} {n : Nat} {K0 K1 : List Key} (h : DkK w v R n K0 K1) : ∃ (A0 A1 : Option Addr) (c0 c1 : Nat), v = .agg #[.int .u64 R, .slice A0 n c0, .slice A1 n c1] := by
  obtain ⟨l0, l1, ⟨A0, A1, c0, c1, rfl, h0, h1⟩, _, _⟩ := h
  exact ⟨A0, A1, c0, c1, rfl⟩
/-- row and number of a stream that is there -/
theorem isB_yes {row i : Int} {n : Nat} (h : isB row i n n = true) : (row = 0 ∨ row = 1) ∧ ∃ j : Nat, i = (j : Int) ∧ j < n := by
  unfold isB at h
  split at h
  · have h' := of_decide_eq_true h
    exact ⟨.inl (by assumption), i.toNat, by omega, by omega⟩
  · split at h
    · have h' := of_decide_eq_true h
      exact ⟨.inr (by assumption), i.toNat, by omega, by omega⟩
    · exact absurd h (by simp)
def codeB (b : Bool) : Int := if b then 0 else 1
/-- one stream turned -/
def turnK (K : List Key) (i : Int) (f : Key → Key) : List Key := K.mapIdx fun j k => if (j : Int) = i then f k else k
theorem turnK_at (K : List Key) (i : Int) (f : Key → Key) (j : Nat) : (turnK K i f)[j]? = (K[j]?).map fun k => if (j : Int) = i then f k else k := by simp [turnK]
theorem turnK_set {l : List St} {j : Nat} {s s' : St} {f : Key → Key} (hs : l[j]? = some s) (hf : s'.key = f s.key) : (l.set j s').map St.key = turnK (l.map St.key) (j : Int) f := by
  refine List.ext_getElem? fun k => ?_
  rw [turnK_at, List.getElem?_map, List.getElem?_map]
  by_cases hk : k = j
  · subst hk
    rw [List.getElem?_set_self (List.getElem?_eq_some_iff.1 hs).1, hs]
    simp [hf]
  · rw [List.getElem?_set_ne (fun e => hk e.symm)]
    cases l[k]? with
    | none => rfl
    | some x =>
      have : ¬ (k : Int) = (j : Int) := by omega
      simp [this]
theorem turnK_out {K : List Key} {i : Int} {f : Key → Key} (h : ¬ (0 ≤ i ∧ i < (K.length : Int))) : turnK K i f = K := by
  refine List.ext_getElem? fun k => ?_
  rw [turnK_at]
  rcases Nat.lt_or_ge k K.length with hk | hk
  · rw [List.getElem?_eq_getElem hk]
    have : ¬ (k : Int) = i := by omega
    simp [this]
  · rw [List.getElem?_eq_none hk]; rfl
/-- a disk behind a call -/
def act0 (row i : Int) (f : Key → Key) (K0 : List Key) : List Key := if row = 0 then turnK K0 i f else K0
def act1 (row i : Int) (f : Key → Key) (K1 : List Key) : List Key := if row = 1 then turnK K1 i f else K1
theorem act0_no {row i : Int} {n : Nat} {f : Key → Key} {K : List Key} (h : isB row i n n = false) (hK : K.length = n) : act0 row i f K = K := by
  unfold act0
  split
  · subst_vars
    refine turnK_out fun h' => ?_
    simp only [isB, if_true, decide_eq_false_iff_not] at h
    exact h h'
  · rfl
theorem act1_no {row i : Int} {n : Nat} {f : Key → Key} {K : List Key} (h : isB row i n n = false) (hK : K.length = n) : act1 row i f K = K := by
  unfold act1
  split
  · subst_vars
    refine turnK_out fun h' => ?_
    simp only [isB, show ¬ (1 : Int) = 0 by decide, if_false, if_true, decide_eq_false_iff_not] at h
    exact h h'
  · rfl
def appK (b : List UInt8) (k : Key) : Key := (k.1 ++ b, k.2)
def synK (k : Key) : Key := (k.1, (k.1.length : Int))
/-- what is read -/
def readK (row i : Int) (K0 K1 : List Key) : List UInt8 := (((if row = 0 then K0 else if row = 1 then K1 else [])[i.toNat]?).filter fun _ => decide (0 ≤ i)).elim [] Prod.fst
theorem key_len {w : World} {s : St} (h : StOK w s) : s.key.1.length = s.q := h.len
theorem dkrow_at {w : World} {A : Option Addr} {n c : Nat} {l : List St} (h : RowV w A n c l) {j : Nat} (hj : j < n) : ∃ s, l[j]? = some s ∧ s ∈ l := ⟨l[j]'(by rw [h.len]; exact hj), List.getElem?_eq_getElem _, List.getElem_mem _⟩
theorem readK_0 {l : List St} {K1 : List Key} {j : Nat} {s : St} (hs : l[j]? = some s) : readK 0 (j : Int) (l.map St.key) K1 = s.d := by
  simp [readK, hs, St.key]; rfl
theorem readK_1 {l : List St} {K0 : List Key} {j : Nat} {s : St} (hs : l[j]? = some s) : readK 1 (j : Int) K0 (l.map St.key) = s.d := by
  simp [readK, hs, St.key]; rfl
theorem readK_no {row i : Int} {n : Nat} {K0 K1 : List Key} (h : isB row i n n = false) (h0 : K0.length = n) (h1 : K1.length = n) : readK row i K0 K1 = [] := by
  unfold readK
  by_cases hi : 0 ≤ i
  · by_cases r0 : row = 0
    · subst r0
      simp only [isB, if_true, decide_eq_false_iff_not] at h
      rw [if_pos rfl, List.getElem?_eq_none (by omega)]; rfl
    · by_cases r1 : row = 1
      · subst r1
        simp only [isB, show ¬ (1 : Int) = 0 by decide, if_false, if_true, decide_eq_false_iff_not] at h
        rw [if_neg (by decide), if_pos rfl, List.getElem?_eq_none (by omega)]; rfl
      · rw [if_neg r0, if_neg r1]; rfl
  · simp [hi]
theorem bytes_nil (w : World) : BytesV w none 0 0 [] := ⟨rfl, Nat.le_refl _, Nat.zero_le _, fun _ => rfl, Cells.nil _ _⟩
def clr0 (row : Int) (n : Nat) (K0 : List Key) : List Key := if row = 0 then List.replicate n ([], 0) else K0
def clr1 (row : Int) (n : Nat) (K1 : List Key) : List Key := if row = 1 then List.replicate n ([], 0) else K1
theorem zero_keys (n : Nat) : (List.replicate n St.zero).map St.key = List.replicate n ([], 0) := by simp [St.key, St.zero]
set_option maxHeartbeats 1000000 in
theorem dappend_K {R : Int} {n : Nat} {K0 K1 : List Key} {v : Value} {w : World} (row i : Int) {B : Option Addr} {m c2 : Nat} {b : List UInt8} (h : DkK w v R n K0 K1) (hn : n ≤ 65536) (hB : BytesV w B m c2 b) (hm0 : ∀ k ∈ K0, k.1.length + m ≤ 65536) (hm1 : ∀ k ∈ K1, k.1.length + m ≤ 65536) :
    Calls Try.prog 76 #[v, .int .i64 row, .int .i64 i, .slice B m c2] w fun e w' => ∃ v', e = .returned (.tuple #[v', .int .i64 (codeB (isB row i n n))]) ∧ DkK w' v' R n (act0 row i (appK b) K0) (act1 row i (appK b) K1) ∧ Ext w w' := by
  obtain ⟨l0, l1, ⟨A0, A1, c0, c1, rfl, h0, h1⟩, rfl, rfl⟩ := h
  by_cases hb : isB row i n n = true
  · obtain ⟨rfl | rfl, j, rfl, hj⟩ := isB_yes hb
    · obtain ⟨s, hs, hmem⟩ := dkrow_at h0 hj
      have hq := hm0 s.key (List.mem_map.2 ⟨s, hmem, rfl⟩)
      rw [key_len (h0.ok s hmem)] at hq
      refine (dappend_row0 R A0 A1 n c0 n c1 j l0 s B m c2 b w h0 hs hn hn hB hq).mono ?_
      rintro e w' ⟨A', c', s', rfl, hr, ⟨e1, e2, e3⟩, hx⟩
      rw [hb]
      exact ⟨_, rfl, ⟨_, _, ⟨_, _, _, _, rfl, hr, h1.ext hx⟩, turnK_set hs (by simp [St.key, appK, e2, e3]), rfl⟩, hx⟩
    · obtain ⟨s, hs, hmem⟩ := dkrow_at h1 hj
      have hq := hm1 s.key (List.mem_map.2 ⟨s, hmem, rfl⟩)
      rw [key_len (h1.ok s hmem)] at hq
      refine (dappend_row1 R A0 A1 n c0 n c1 j l1 s B m c2 b w h1 hs hn hn hB hq).mono ?_
      rintro e w' ⟨A', c', s', rfl, hr, ⟨e1, e2, e3⟩, hx⟩
      rw [hb]
      exact ⟨_, rfl, ⟨_, _, ⟨_, _, _, _, rfl, h0.ext hx, hr⟩, rfl, turnK_set hs (by simp [St.key, appK, e2, e3])⟩, hx⟩
  · have hb' : isB row i n n = false := by simpa using hb
    refine (dappend_no R A0 A1 n c0 n c1 row i B m c2 w hb').mono ?_
    rintro e w' ⟨rfl, hx⟩
    rw [hb', act0_no hb' (by rw [List.length_map]; exact h0.len), act1_no hb' (by rw [List.length_map]; exact h1.len)]
    exact ⟨_, rfl, ⟨_, _, ⟨_, _, _, _, rfl, h0.ext hx, h1.ext hx⟩, rfl, rfl⟩, hx⟩
set_option maxHeartbeats 1000000 in
theorem dsync_K {R : Int} {n : Nat} {K0 K1 : List Key} {v : Value} {w : World} (row i : Int) (h : DkK w v R n K0 K1) (hn : n ≤ 65536) (hm0 : ∀ k ∈ K0, k.1.length ≤ 65536) (hm1 : ∀ k ∈ K1, k.1.length ≤ 65536) :
    Calls Try.prog 78 #[v, .int .i64 row, .int .i64 i] w fun e w' => ∃ v', e = .returned (.tuple #[v', .int .i64 (codeB (isB row i n n))]) ∧ DkK w' v' R n (act0 row i synK K0) (act1 row i synK K1) ∧ Ext w w' := by
  obtain ⟨l0, l1, ⟨A0, A1, c0, c1, rfl, h0, h1⟩, rfl, rfl⟩ := h
  by_cases hb : isB row i n n = true
  · obtain ⟨rfl | rfl, j, rfl, hj⟩ := isB_yes hb
    · obtain ⟨s, hs, hmem⟩ := dkrow_at h0 hj
      have hq := hm0 s.key (List.mem_map.2 ⟨s, hmem, rfl⟩)
      have hk := key_len (h0.ok s hmem)
      rw [hk] at hq
      refine (dsync_row0 R A0 A1 n c0 n c1 j l0 s w h0 hs hn hn (by omega)).mono ?_
      rintro e w' ⟨A', c', s', rfl, hr, ⟨e1, e2, e3⟩, hx⟩
      rw [hb]
      exact ⟨_, rfl, ⟨_, _, ⟨_, _, _, _, rfl, hr, h1.ext hx⟩, turnK_set hs (by simp only [synK, hk]; simp [St.key, e2, e3]), rfl⟩, hx⟩
    · obtain ⟨s, hs, hmem⟩ := dkrow_at h1 hj
      have hq := hm1 s.key (List.mem_map.2 ⟨s, hmem, rfl⟩)
      have hk := key_len (h1.ok s hmem)
      rw [hk] at hq
      refine (dsync_row1 R A0 A1 n c0 n c1 j l1 s w h1 hs hn hn (by omega)).mono ?_
      rintro e w' ⟨A', c', s', rfl, hr, ⟨e1, e2, e3⟩, hx⟩
      rw [hb]
      exact ⟨_, rfl, ⟨_, _, ⟨_, _, _, _, rfl, h0.ext hx, hr⟩, rfl, turnK_set hs (by simp only [synK, hk]; simp [St.key, e2, e3])⟩, hx⟩
  · have hb' : isB row i n n = false := by simpa using hb
    refine (dsync_no R A0 A1 n c0 n c1 row i w hb').mono ?_
    rintro e w' ⟨rfl, hx⟩
    rw [hb', act0_no hb' (by rw [List.length_map]; exact h0.len), act1_no hb' (by rw [List.length_map]; exact h1.len)]
    exact ⟨_, rfl, ⟨_, _, ⟨_, _, _, _, rfl, h0.ext hx, h1.ext hx⟩, rfl, rfl⟩, hx⟩
set_option maxHeartbeats 1000000 in
theorem dread_K {R : Int} {n : Nat} {K0 K1 : List Key} {v : Value} {w : World} (row i : Int) (h : DkK w v R n K0 K1) (hn : n ≤ 65536) (hm0 : ∀ k ∈ K0, k.1.length ≤ 65536) (hm1 : ∀ k ∈ K1, k.1.length ≤ 65536) :
    Calls Try.prog 80 #[v, .int .i64 row, .int .i64 i] w fun e w' => ∃ (A : Option Addr) (q c : Nat), e = .returned (.tuple #[.slice A q c, .int .i64 (codeB (isB row i n n))]) ∧ BytesV w' A q c (readK row i K0 K1) ∧ Ext w w' := by
  obtain ⟨l0, l1, ⟨A0, A1, c0, c1, rfl, h0, h1⟩, rfl, rfl⟩ := h
  by_cases hb : isB row i n n = true
  · obtain ⟨rfl | rfl, j, rfl, hj⟩ := isB_yes hb
    · obtain ⟨s, hs, hmem⟩ := dkrow_at h0 hj
      have hq := hm0 s.key (List.mem_map.2 ⟨s, hmem, rfl⟩)
      rw [key_len (h0.ok s hmem)] at hq
      refine (dread_row0 R A0 A1 n c0 n c1 j l0 s w h0 hs hn hn (by omega)).mono ?_
      rintro e w' ⟨A', c', rfl, hr, hx⟩
      rw [hb, readK_0 hs]
      exact ⟨_, _, _, rfl, hr, hx⟩
    · obtain ⟨s, hs, hmem⟩ := dkrow_at h1 hj
      have hq := hm1 s.key (List.mem_map.2 ⟨s, hmem, rfl⟩)
      rw [key_len (h1.ok s hmem)] at hq
      refine (dread_row1 R A0 A1 n c0 n c1 j l1 s w h1 hs hn hn (by omega)).mono ?_
      rintro e w' ⟨A', c', rfl, hr, hx⟩
      rw [hb, readK_1 hs]
      exact ⟨_, _, _, rfl, hr, hx⟩
  · have hb' : isB row i n n = false := by simpa using hb
    refine (dread_no R A0 A1 n c0 n c1 row i w hb').mono ?_
    rintro e w' ⟨rfl, hx⟩
    rw [hb', readK_no hb' (by rw [List.length_map]; exact h0.len) (by rw [List.length_map]; exact h1.len)]
    exact ⟨_, _, _, rfl, bytes_nil _, hx⟩
set_option maxHeartbeats 1000000 in
theorem dclear_K {R : Int} {n : Nat} {K0 K1 : List Key} {v : Value} {w : World} (row : Int) (h : DkK w v R n K0 K1) (hn : n ≤ 65536) (hpos : 0 < n) :
    Calls Try.prog 82 #[v, .int .i64 row] w fun e w' => ∃ v', e = .returned (.tuple #[v', .int .i64 (codeB (decide (row = 0 ∨ row = 1)))]) ∧ DkK w' v' R n (clr0 row n K0) (clr1 row n K1) ∧ Ext w w' := by
  obtain ⟨l0, l1, ⟨A0, A1, c0, c1, rfl, h0, h1⟩, rfl, rfl⟩ := h
  by_cases r0 : row = 0
  · subst r0
    refine (dclear_row0 R A0 A1 n c0 n c1 w hpos hn hn).mono ?_
    rintro e w' ⟨A', c', rfl, hr, hx⟩
    exact ⟨_, rfl, ⟨_, _, ⟨_, _, _, _, rfl, hr, h1.ext hx⟩, zero_keys n, rfl⟩, hx⟩
  · by_cases r1 : row = 1
    · subst r1
      refine (dclear_row1 R A0 A1 n c0 n c1 w hpos hn hn).mono ?_
      rintro e w' ⟨A', c', rfl, hr, hx⟩
      exact ⟨_, rfl, ⟨_, _, ⟨_, _, _, _, rfl, h0.ext hx, hr⟩, rfl, zero_keys n⟩, hx⟩
    · refine (dclear_no R A0 A1 n c0 n c1 row w (by simp [isB, r0, r1])).mono ?_
      rintro e w' ⟨rfl, hx⟩
      rw [show decide (row = 0 ∨ row = 1) = false by simp [r0, r1], show clr0 row n (l0.map St.key) = l0.map St.key by simp [clr0, r0], show clr1 row n (l1.map St.key) = l1.map St.key by simp [clr1, r1]]
      exact ⟨_, rfl, ⟨_, _, ⟨_, _, _, _, rfl, h0.ext hx, h1.ext hx⟩, rfl, rfl⟩, hx⟩
/-- so many streams a row has a new disk -/
def newN (t : Int) : Nat := if 1 ≤ t ∧ t ≤ 64 then t.toNat else 0
set_option maxHeartbeats 1000000 in
theorem rnew_K (t : Int) (w : World) :
    Calls Try.prog 72 #[.int .i64 t] w fun e w' => ∃ v', e = .returned (.tuple #[v', .int .i64 (codeB (decide (1 ≤ t ∧ t ≤ 64)))]) ∧ DkK w' v' 0 (newN t) (List.replicate (newN t) ([], 0)) (List.replicate (newN t) ([], 0)) ∧ Ext w w' := by
  by_cases ht : 1 ≤ t ∧ t ≤ 64
  · obtain ⟨k, rfl⟩ : ∃ k : Nat, t = (k : Int) := ⟨t.toNat, by omega⟩
    refine (rnew7_yes k w (by omega) (by omega)).mono ?_
    rintro e w' ⟨A0, A1, c0, c1, rfl, h0, h1, hx⟩
    rw [decide_eq_true ht, show newN (k : Int) = k by unfold newN; rw [if_pos ht]; rfl]
    exact ⟨_, rfl, ⟨_, _, ⟨_, _, _, _, rfl, h0, h1⟩, zero_keys k, zero_keys k⟩, hx⟩
  · refine (rnew7_no t w (by omega)).mono ?_
    rintro e w' ⟨rfl, hx⟩
    rw [decide_eq_false ht, show newN t = 0 by unfold newN; rw [if_neg ht]]
    exact ⟨_, rfl, ⟨[], [], ⟨none, none, 0, 0, rfl, row_nil _, row_nil _⟩, rfl, rfl⟩, hx⟩
end Go.Proofs.Ytjokaginolpbeaa

namespace Go.Proofs.Ytjokaginolpbeaa
open Go.RowKit

/-! Slices of words. -/
def wordsOf (l : List Int) : List Value := l.map (Value.int .u64)
theorem wordsOf_length (l : List Int) : (wordsOf l).length = l.length := by simp [wordsOf]
theorem wordsOf_one (l : List Int) : ∀ u ∈ wordsOf l, u.oneCell' = true := by
  intro u hu
  obtain ⟨b, _, rfl⟩ := List.mem_map.1 hu
  rfl
structure WordsV (w : World) (A : Option Addr) (n c : Nat) (l : List Int) : Prop where
  len : l.length = n
  le : n ≤ c
  cap : c ≤ maxLen
  nil : A = none → c = 0
  cells : Cells w A (wordsOf l)
  rng : ∀ z ∈ l, 0 ≤ z ∧ z < 18446744073709551616
theorem WordsV.ext {w w' : World} {A : Option Addr} {n c : Nat} {l : List Int} (h : WordsV w A n c l) (hx : Ext w w') : WordsV w' A n c l := ⟨h.len, h.le, h.cap, h.nil, h.cells.ext hx, h.rng⟩
theorem WordsV.none0 {w : World} {A : Option Addr} {n c : Nat} {l : List Int} (h : WordsV w A n c l) : A = none → c = 0 ∧ n = 0 := fun e => by
  have := h.nil e; have := h.le; omega
theorem WordsV.at {w : World} {A : Option Addr} {n c : Nat} {l : List Int} (h : WordsV w A n c l) {i : Nat} (hi : i < n) : ∃ a, A = some a ∧ w.cell? (a.add i) = some (.int .u64 (l.getD i 0)) ∧ 0 ≤ l.getD i 0 ∧ l.getD i 0 < 18446744073709551616 := by
  have hl : i < l.length := by rw [h.len]; exact hi
  have hne : wordsOf l ≠ [] := fun e => by rw [← wordsOf_length, e] at hl; simp at hl
  obtain ⟨a, ha, hc⟩ := h.cells hne
  have h1 : l.getD i 0 = l[i] := by simp [List.getD, hl]
  rw [h1]
  exact ⟨a, ha, hc i _ (by simp [wordsOf, hl]), h.rng _ (List.getElem_mem hl)⟩
theorem words_nil (W : World) : WordsV W none 0 0 [] := ⟨rfl, Nat.le_refl _, Nat.zero_le _, fun _ => rfl, Cells.nil _ _, fun z h => by cases h⟩
/-- a row of words of the call's own -/
def WordsAt (w : World) (g L : Nat) (f : Nat → Int) : Prop := ∀ i, i < L → w.cell? ⟨g, i, none⟩ = some (.int .u64 (f i)) ∧ w.frozen? ⟨g, i, none⟩ = false
theorem WordsAt.congr {w : World} {g L : Nat} {f f' : Nat → Int} (h : WordsAt w g L f) (hf : ∀ i, i < L → f i = f' i) : WordsAt w g L f' := fun i hi => by rw [← hf i hi]; exact h i hi
theorem WordsAt.ext {w w' : World} {g L : Nat} {f : Nat → Int} (h : WordsAt w g L f) (hx : Ext w w') : WordsAt w' g L f := fun i hi =>
  ⟨hx.cell (h i hi).1, by rw [hx.frozen (lt_of_cell (h i hi).1)]; exact (h i hi).2⟩
theorem frozen_setCell (w : World) (p q : Addr) (u : Value) : (w.setCell p u).frozen? q = w.frozen? q := by
  simp only [World.frozen?, World.setCell, Array.getElem?_modify]
  by_cases h : p.block = q.block
  · rw [if_pos h]
    cases h' : w.heap[q.block]? with
    | none => rfl
    | some o => cases o <;> rfl
  · rw [if_neg h]
theorem WordsAt.set {w : World} {g L : Nat} {f : Nat → Int} (h : WordsAt w g L f) {j : Nat} (hj : j < L) (v : Int) : WordsAt (w.setCell ⟨g, j, none⟩ (.int .u64 v)) g L (fun i => if i = j then v else f i) := fun i hi => by
  refine ⟨?_, by rw [frozen_setCell]; exact (h i hi).2⟩
  show (w.setCell ⟨g, j, none⟩ (.int .u64 v)).cell? ⟨g, i, none⟩ = some (.int .u64 (if i = j then v else f i))
  by_cases hij : i = j
  · subst hij
    rw [if_pos rfl]
    exact World.cell?_setCell_same w _ _ (h i hi).1
  · rw [if_neg hij, World.cell?_setCell_other w _ _ _ (fun e => hij (by injection e with _ e; exact e.symm))]
    exact (h i hi).1
theorem WordsAt.other {w : World} {g L : Nat} {f : Nat → Int} (h : WordsAt w g L f) {p : Addr} (hp : p.block ≠ g) (u : Value) : WordsAt (w.setCell p u) g L f := fun i hi => by
  refine ⟨?_, by rw [frozen_setCell]; exact (h i hi).2⟩
  rw [World.cell?_setCell_other w _ _ _ (fun e => hp (by rw [e]))]
  exact (h i hi).1
theorem WordsAt.v {w : World} {g L : Nat} {f : Nat → Int} (h : WordsAt w g L f) (hL : L ≤ maxLen) (hr : ∀ i, i < L → 0 ≤ f i ∧ f i < 18446744073709551616) : WordsV w (some ⟨g, 0, none⟩) L L ((List.range L).map f) := by
  refine ⟨by simp, Nat.le_refl _, hL, (by intro h; cases h), fun _ => ⟨_, rfl, fun j u hu => ?_⟩, fun z hz => ?_⟩
  · simp only [wordsOf, List.map_map, List.getElem?_map] at hu
    obtain ⟨i, hi, rfl⟩ := Option.map_eq_some_iff.1 hu
    obtain ⟨h1, h2⟩ := List.getElem?_eq_some_iff.1 hi
    have hjL : j < L := by simpa using h1
    have : i = j := by rw [← h2]; simp
    subst this
    have h2 : (⟨g, 0, none⟩ : Addr).add i = ⟨g, i, none⟩ := by unfold Addr.add; split <;> simp_all
    rw [h2]
    exact (h i hjL).1
  · obtain ⟨i, hi, rfl⟩ := List.mem_map.1 hz
    exact hr i (List.mem_range.1 hi)
theorem WordsAt.made {w : World} {g L : Nat} {C : Array Value} {e : TypeId} (hg : w.heap[g]? = some (.cells C e (0, 0))) (hC : C = madeCells #[.int .u64 0] L) : WordsAt w g L (fun _ => 0) := fun i hi => by
  subst hC
  constructor
  · simp [World.cell?, hg, madeCells, hi, Nat.mod_one]
  · simp [World.frozen?, hg]
/-- what a memory's making has in hand: the result's place, the row, the memory's box -/
structure NewI (T : TypeId) (w : World) (L : Nat) (t c : Int) (f : Nat → Int) (wr : World) : Prop where
  ext : Ext w wr
  row : WordsAt wr (w.heap.size + 1) L f
  res : wr.heap[w.heap.size]? = some (.cells #[.int .i64 0, .int .i64 0, .slice none 0 0] T (0, 0))
  box : wr.heap[w.heap.size + 1 + 1]? = some (.cells #[.int .i64 t, .int .i64 c, .slice (some ⟨w.heap.size + 1, 0, none⟩) L L] T (0, 0))
theorem NewI.on {T : TypeId} {w : World} {L : Nat} {t c : Int} {f : Nat → Int} {wr wx : World} (h : NewI T w L t c f wr) (hx : Ext wr wx) : NewI T w L t c f wx :=
  ⟨h.ext.trans hx, h.row.ext hx, by rw [Below.block hx _ (Array.getElem?_eq_some_iff.1 h.res).1]; exact h.res, by rw [Below.block hx _ (Array.getElem?_eq_some_iff.1 h.box).1]; exact h.box⟩
theorem NewI.set {T : TypeId} {w : World} {L : Nat} {t c : Int} {f : Nat → Int} {wr : World} (h : NewI T w L t c f wr) {j : Nat} (hj : j < L) (v : Int) : NewI T w L t c (fun i => if i = j then v else f i) (wr.setCell ⟨w.heap.size + 1, j, none⟩ (.int .u64 v)) :=
  ⟨Below.setCell h.ext (by simp) _, h.row.set hj v, by rw [Below.heap_setCell _ _ _ _ (by simp)]; exact h.res, by rw [Below.heap_setCell _ _ _ _ (by simp)]; exact h.box⟩
theorem NewI.congr {T : TypeId} {w : World} {L : Nat} {t c : Int} {f f' : Nat → Int} {wr : World} (h : NewI T w L t c f wr) (hf : ∀ i, i < L → f i = f' i) : NewI T w L t c f' wr := ⟨h.ext, h.row.congr hf, h.res, h.box⟩
theorem NewI.cells {T : TypeId} {w : World} {L : Nat} {t c : Int} {f : Nat → Int} {wr : World} (h : NewI T w L t c f wr) :
    wr.cell? ⟨w.heap.size + 1 + 1, 0, none⟩ = some (.int .i64 t) ∧ wr.cell? ⟨w.heap.size + 1 + 1, 1, none⟩ = some (.int .i64 c) ∧ wr.cell? ⟨w.heap.size + 1 + 1, 2, none⟩ = some (.slice (some ⟨w.heap.size + 1, 0, none⟩) L L) := by
  simp [World.cell?, h.box]
theorem NewI.out {T : TypeId} {w : World} {L : Nat} {t c : Int} {f : Nat → Int} {wr : World} (h : NewI T w L t c f wr) :
    wr.cell? ⟨w.heap.size, 0, none⟩ = some (.int .i64 0) ∧ wr.cell? ⟨w.heap.size, 1, none⟩ = some (.int .i64 0) ∧ wr.cell? ⟨w.heap.size, 2, none⟩ = some (.slice none 0 0) ∧
      wr.frozen? ⟨w.heap.size, 0, none⟩ = false ∧ wr.frozen? ⟨w.heap.size, 1, none⟩ = false ∧ wr.frozen? ⟨w.heap.size, 2, none⟩ = false := by
  simp [World.cell?, World.frozen?, h.res]
theorem NewI.at {T : TypeId} {w : World} {L : Nat} {t c : Int} {f : Nat → Int} {wr : World} (h : NewI T w L t c f wr) {j : Nat} (hj : j < L) :
    wr.cell? ⟨w.heap.size + 1, j, none⟩ = some (.int .u64 (f j)) ∧ wr.frozen? ⟨w.heap.size + 1, j, none⟩ = false := h.row j hj
end Go.Proofs.Ytjokaginolpbeaa

namespace Go.Proofs.Ytjokaginolpbeaa

/-! Worlds, accesses and results, told by what they hold; what an access does to them. -/
structure WldK where
  T : Int
  C : Int
  ws : List Int
  R : Int
  n : Nat
  K0 : List Key
  K1 : List Key
structure AccK where
  kind : Int
  cell : Int
  a : Int
  b : Int
  data : List UInt8
  word : List Int
structure ResK where
  N : Int
  b : List UInt8
  fail : Bool
def ResK.zero : ResK := ⟨0, [], false⟩
/-- what an access of a word tells, and the word then -/
def turnN (kind old a : Int) : Int := if kind = 0 then old else if kind = 2 then (if old = a then 1 else 0) else if kind = 3 then old else if kind = 4 then old else 0
def turnX (kind old a b : Int) : Int := if kind = 1 then a else if kind = 2 then (if old = a then b else old) else if kind = 3 then (old + a) % 18446744073709551616 else if kind = 4 then a else old
def inW (n : Nat) (A : AccK) : Bool := decide (0 ≤ A.kind) && decide (A.kind ≤ 4) && decide (0 ≤ A.cell) && decide (A.cell < (n : Int))
theorem inW_iff {n : Nat} {A : AccK} : inW n A = true ↔ 0 ≤ A.kind ∧ A.kind ≤ 4 ∧ 0 ≤ A.cell ∧ A.cell < (n : Int) := by simp [inW, and_assoc]
def wordsK (ws : List Int) (A : AccK) : List Int := if inW ws.length A then ws.set A.cell.toNat (turnX A.kind (ws.getD A.cell.toNat 0) A.a A.b) else ws
def wordsR (ws : List Int) (A : AccK) : ResK := if inW ws.length A then ⟨turnN A.kind (ws.getD A.cell.toNat 0) A.a, [], false⟩ else ResK.zero
theorem wordsK_length (ws : List Int) (A : AccK) : (wordsK ws A).length = ws.length := by unfold wordsK; split <;> simp
def diskKind (k : Int) : Bool := decide (5 ≤ k) && decide (k ≤ 12)
/-- a disk behind an access of it -/
def strK0 (R : Int) (n : Nat) (me : Int) (A : AccK) (K0 : List Key) : List Key :=
  if A.kind = 5 then act0 (R % 2) me (appK A.data) K0 else if A.kind = 6 then act0 (R % 2) me synK K0 else if A.kind = 9 then clr0 (1 - R % 2) n K0
  else if A.kind = 10 then act0 (1 - R % 2) 0 (appK A.data) K0 else if A.kind = 11 then act0 (1 - R % 2) 0 synK K0 else K0
def strK1 (R : Int) (n : Nat) (me : Int) (A : AccK) (K1 : List Key) : List Key :=
  if A.kind = 5 then act1 (R % 2) me (appK A.data) K1 else if A.kind = 6 then act1 (R % 2) me synK K1 else if A.kind = 9 then clr1 (1 - R % 2) n K1
  else if A.kind = 10 then act1 (1 - R % 2) 0 (appK A.data) K1 else if A.kind = 11 then act1 (1 - R % 2) 0 synK K1 else K1
def strRoot (R : Int) (A : AccK) : Int := if A.kind = 12 then (R + 1) % 18446744073709551616 else R
def strR (R : Int) (A : AccK) (K0 K1 : List Key) : ResK := if A.kind = 7 then ⟨R, [], false⟩ else if A.kind = 8 then ⟨0, readK (R % 2) A.cell K0 K1, false⟩ else ResK.zero
/-- a world behind an access -/
def doK (X : WldK) (me : Int) (A : AccK) (fail : Bool) : WldK :=
  if diskKind A.kind then (if fail then X else { X with R := strRoot X.R A, K0 := strK0 X.R X.n me A X.K0, K1 := strK1 X.R X.n me A X.K1 })
  else if A.kind = 13 then (if A.word.length = X.ws.length then { X with ws := A.word } else X)
  else { X with ws := wordsK X.ws A }
def doR (X : WldK) (A : AccK) (fail : Bool) : ResK :=
  if diskKind A.kind then (if fail then ⟨0, [], true⟩ else strR X.R A X.K0 X.K1) else if A.kind = 13 then ResK.zero else wordsR X.ws A
/-- values of the program that hold them -/
def WldV (w : World) (v : Value) (X : WldK) : Prop := ∃ (A : Option Addr) (q c : Nat) (A0 A1 : Option Addr) (c0 c1 : Nat), v = .agg #[.int .i64 X.T, .int .i64 X.C, .slice A q c, .int .u64 X.R, .slice A0 X.n c0, .slice A1 X.n c1] ∧
  WordsV w A q c X.ws ∧ DkK w (.agg #[.int .u64 X.R, .slice A0 X.n c0, .slice A1 X.n c1]) X.R X.n X.K0 X.K1
def AccV (w : World) (v : Value) (A : AccK) : Prop := ∃ (D : Option Addr) (m cd : Nat) (B : Option Addr) (q cb : Nat), v = .agg #[.int .i64 A.kind, .int .i64 A.cell, .int .u64 A.a, .int .u64 A.b, .slice D m cd, .slice B q cb] ∧ BytesV w D m cd A.data ∧ WordsV w B q cb A.word ∧ (0 ≤ A.a ∧ A.a < 18446744073709551616) ∧ (0 ≤ A.b ∧ A.b < 18446744073709551616)
def ResV (w : World) (v : Value) (r : ResK) : Prop := ∃ (B : Option Addr) (q c : Nat), v = .agg #[.int .u64 r.N, .slice B q c, .bool r.fail] ∧ BytesV w B q c r.b
theorem WldV.ext {w w' : World} {v : Value} {X : WldK} (h : WldV w v X) (hx : Ext w w') : WldV w' v X := let ⟨A, q, c, A0, A1, c0, c1, e, h1, h2⟩ := h; ⟨A, q, c, A0, A1, c0, c1, e, h1.ext hx, h2.ext hx⟩
theorem AccV.ext {w w' : World} {v : Value} {A : AccK} (h : AccV w v A) (hx : Ext w w') : AccV w' v A := let ⟨D, m, cd, B, q, cb, e, h1, h2, h3⟩ := h; ⟨D, m, cd, B, q, cb, e, h1.ext hx, h2.ext hx, h3⟩
theorem ResV.ext {w w' : World} {v : Value} {r : ResK} (h : ResV w v r) (hx : Ext w w') : ResV w' v r := let ⟨B, q, c, e, h1⟩ := h; ⟨B, q, c, e, h1.ext hx⟩
/-- a world of which accesses may be made, of so many bytes -/
structure Fit (X : WldK) (m : Nat) : Prop where
  pos : 0 < X.n
  le : X.n ≤ 64
  root : 0 ≤ X.R ∧ X.R < 18446744073709551616
  ws : 2 ≤ X.ws.length ∧ X.ws.length ≤ 65536
  k0 : ∀ k ∈ X.K0, k.1.length + m ≤ 65536
  k1 : ∀ k ∈ X.K1, k.1.length + m ≤ 65536
/-- what access.Do answers -/
def DoPost (X : WldK) (r : ResK) (w : World) (e : Ending) (w' : World) : Prop := ∃ v' r', e = .returned (.tuple #[v', r']) ∧ WldV w' v' X ∧ ResV w' r' r ∧ Ext w w'
end Go.Proofs.Ytjokaginolpbeaa

namespace Go.Proofs.Ytjokaginolpbeaa
open Go.RowKit

/-! Boxes of worlds, memories, disks and results lie apart from rows, words and bytes: told apart by what stands in them. -/
def kindV : Value → Nat
  | .slice _ _ _ => 1
  | .int .i64 _ => 2
  | .int .u64 _ => 3
  | .int .u8 _ => 4
  | .bool _ => 5
  | _ => 0
def boxish : List Value → Bool
  | [] => true
  | [x] => kindV x != 4
  | x :: y :: l => (kindV x != 4) && (!(kindV x == 1 && kindV y == 2) && (!(kindV x == 3 && kindV y == 3) && boxish (y :: l)))
theorem boxish_one : ∀ {l : List Value} {i : Nat} {x : Value}, boxish l = true → l[i]? = some x → kindV x ≠ 4
  | [], i, x, _, h => by simp at h
  | [a], 0, x, hb, h => by simp at h; subst h; simpa [boxish] using hb
  | [a], i + 1, x, _, h => by simp at h
  | a :: b :: l, 0, x, hb, h => by simp at h; subst h; simp [boxish] at hb; exact hb.1
  | a :: b :: l, i + 1, x, hb, h => by
    simp [boxish] at hb
    exact boxish_one (l := b :: l) hb.2.2.2 (by simpa using h)
theorem boxish_two : ∀ {l : List Value} {i : Nat} {x y : Value}, boxish l = true → l[i]? = some x → l[i + 1]? = some y → ¬ (kindV x = 1 ∧ kindV y = 2) ∧ ¬ (kindV x = 3 ∧ kindV y = 3)
  | [], i, x, y, _, h, _ => by simp at h
  | [a], 0, x, y, _, _, h => by simp at h
  | [a], i + 1, x, y, _, h, _ => by simp at h
  | a :: b :: l, 0, x, y, hb, h, k => by
    simp at h k
    subst h k
    simp [boxish] at hb
    exact ⟨fun e => hb.2.1.elim (fun h => h e.1) (fun h => h e.2), fun e => hb.2.2.1.elim (fun h => h e.1) (fun h => h e.2)⟩
  | a :: b :: l, i + 1, x, y, hb, h, k => by
    simp [boxish] at hb
    exact boxish_two (l := b :: l) hb.2.2.2 (by simpa using h) (by simpa using k)
/-- the cells of a row that began in a block -/
theorem cells_in {w : World} {a : Addr} {xs : List Value} (h : ∀ j u, xs[j]? = some u → w.cell? (a.add j) = some u) {cs : List Value} {T : TypeId} {fr : Nat × Nat} (hg : w.heap[a.block]? = some (.cells cs.toArray T fr)) {j : Nat} {u : Value} (hj : xs[j]? = some u) : cs[a.off + j]? = some u := by
  have h1 := h j u hj
  unfold World.cell? at h1
  rw [add_block, hg] at h1
  simp only at h1
  split at h1
  · cases h1
  · have : (a.add j).off = a.off + j := by unfold Addr.add; split <;> simp_all
    rw [this] at h1
    simpa using h1
/-- what was there is there, but for one block -/
def But (g : Nat) (w w' : World) : Prop := ∀ (k : Nat) (o : Obj), k ≠ g → w.heap[k]? = some o → w'.heap[k]? = some o
theorem But.cells {w w' : World} {g : Nat} (hb : But g w w') {A : Option Addr} {xs : List Value} (h : Cells w A xs) (hp : xs ≠ [] → ∀ a, A = some a → a.block ≠ g) : Cells w' A xs := fun hn => by
  obtain ⟨a, ha, hc⟩ := h hn
  refine ⟨a, ha, fun j u hj => ?_⟩
  have h1 := hc j u hj
  have h2 := h1
  unfold World.cell? at h2
  rw [add_block] at h2
  cases ho : w.heap[a.block]? with
  | none => rw [ho] at h2; cases h2
  | some o =>
    rw [World.cell?_of_block (w := w) (by rw [add_block, hb _ _ (hp hn a ha) ho, ho])]
    exact h1
theorem But.setCell (w : World) (g i : Nat) (u : Value) : But g w (w.setCell ⟨g, i, none⟩ u) := fun k o hk ho => (Below.heap_setCell _ _ _ _ hk).trans ho
theorem But.trans {g : Nat} {a b c : World} (h : But g a b) (k : But g b c) : But g a c := fun x o hx ho => k x o hx (h x o hx ho)
theorem But.all (g : Nat) : ∀ (vs : List Value) (i : Nat) (w : World), But g w (setAll g i vs w) := fun vs i w k o hk ho => (setAll_other hk vs i w).trans ho
theorem But.exts {g : Nat} {w w' : World} (h : SB.ExtS [g] w.drew w') : But g w w' := fun _ _ hk ho => h.heap ho (by simpa using hk)
theorem boxes4 (w : World) (o0 o1 o2 o3 : Obj) :
    Ext w ((((w.alloc o0).alloc o1).alloc o2).alloc o3) ∧ ((((w.alloc o0).alloc o1).alloc o2).alloc o3).heap[w.heap.size]? = some o0 ∧ ((((w.alloc o0).alloc o1).alloc o2).alloc o3).heap[w.heap.size + 1]? = some o1 ∧
      ((((w.alloc o0).alloc o1).alloc o2).alloc o3).heap[w.heap.size + 1 + 1]? = some o2 ∧ ((((w.alloc o0).alloc o1).alloc o2).alloc o3).heap[w.heap.size + 1 + 1 + 1]? = some o3 := by
  refine ⟨((((Below.refl _ w).alloc (Nat.le_refl _) _).alloc (by simp) _).alloc (by simp; omega) _).alloc (by simp; omega) _, ?_, ?_, ?_, ?_⟩
  · rw [Below.heap_alloc _ _ _ (by first | (simp; omega) | simp), Below.heap_alloc _ _ _ (by first | (simp; omega) | simp), Below.heap_alloc _ _ _ (by first | (simp; omega) | simp)]
    simpa using heap_alloc_new w o0
  · rw [Below.heap_alloc _ _ _ (by first | (simp; omega) | simp), Below.heap_alloc _ _ _ (by first | (simp; omega) | simp)]
    simpa using heap_alloc_new (w.alloc o0) o1
  · rw [Below.heap_alloc _ _ _ (by first | (simp; omega) | simp)]
    simpa using heap_alloc_new ((w.alloc o0).alloc o1) o2
  · simpa using heap_alloc_new (((w.alloc o0).alloc o1).alloc o2) o3
theorem boxes5 (w : World) (o0 o1 o2 o3 o4 : Obj) :
    Ext w (((((w.alloc o0).alloc o1).alloc o2).alloc o3).alloc o4) ∧ (((((w.alloc o0).alloc o1).alloc o2).alloc o3).alloc o4).heap[w.heap.size]? = some o0 ∧ (((((w.alloc o0).alloc o1).alloc o2).alloc o3).alloc o4).heap[w.heap.size + 1]? = some o1 ∧
      (((((w.alloc o0).alloc o1).alloc o2).alloc o3).alloc o4).heap[w.heap.size + 1 + 1]? = some o2 ∧ (((((w.alloc o0).alloc o1).alloc o2).alloc o3).alloc o4).heap[w.heap.size + 1 + 1 + 1]? = some o3 ∧ (((((w.alloc o0).alloc o1).alloc o2).alloc o3).alloc o4).heap[w.heap.size + 1 + 1 + 1 + 1]? = some o4 := by
  obtain ⟨h, h0, h1, h2, h3⟩ := boxes4 w o0 o1 o2 o3
  have hx : Ext ((((w.alloc o0).alloc o1).alloc o2).alloc o3) (((((w.alloc o0).alloc o1).alloc o2).alloc o3).alloc o4) := (Below.refl _ _).alloc (Nat.le_refl _) _
  exact ⟨h.trans hx, heap_ext h0 hx, heap_ext h1 hx, heap_ext h2 hx, heap_ext h3 hx, by simpa using heap_alloc_new ((((w.alloc o0).alloc o1).alloc o2).alloc o3) o4⟩
/-- a row of words of the call's own -/
theorem info_u64w : (Try.prog.info? 22).map (fun i => (i.zero, i.size, i.bytes)) = some (some (.int .u64 0), 1, 8) := by kernel_rfl
def OwnW (w : World) (base g c : Nat) (l : List Int) : Prop := w.ownsRow base 22 1 (.slice (some ⟨g, 0, none⟩) l.length c) l.length (wordsOf l)
theorem OwnW.base {w : World} {base g c : Nat} {l : List Int} (h : OwnW w base g c l) : base ≤ g ∧ g < w.heap.size := World.ownsRow.lt h g rfl
theorem OwnW.kept {w w' : World} {base g c : Nat} {l : List Int} (h : OwnW w base g c l) (hk : w'.heap[g]? = w.heap[g]?) : OwnW w' base g c l := by
  refine ⟨h.1, ?_⟩
  rcases h.2 with ⟨e, _⟩ | ⟨g', cap, cur, h3, h4, h5, h6⟩
  · cases e
  · have : g' = g := by have := (Value.slice.inj h3).1; simpa using this.symm
    subst this
    exact .inr ⟨g', cap, cur, h3, h4, hk.trans h5, h6⟩
theorem OwnW.at {w : World} {base g c : Nat} {l : List Int} (h : OwnW w base g c l) {i : Nat} (hi : i < l.length) :
    w.cell? ⟨g, i, none⟩ = some (.int .u64 (l.getD i 0)) ∧ w.frozen? ⟨g, i, none⟩ = false := by
  rcases h.2 with ⟨e, _⟩ | ⟨g', cap, cur, h3, h4, h5, h6, h7, h8, h9⟩
  · cases e
  · have : g' = g := by have := (Value.slice.inj h3).1; simpa using this.symm
    subst this
    have h1 : (wordsOf l)[i]? = some (.int .u64 (l.getD i 0)) := by simp [wordsOf, hi]
    rw [← h9, List.getElem?_take_of_lt (by omega)] at h1
    exact ⟨by simp [World.cell?, h5]; simpa using h1, by simp [World.frozen?, h5]⟩
theorem OwnW.set {w : World} {base g c : Nat} {l : List Int} (h : OwnW w base g c l) (i : Nat) (z : Int) : OwnW (w.setCell ⟨g, i, none⟩ (.int .u64 z)) base g c (l.set i z) := by
  refine ⟨by simp [wordsOf], ?_⟩
  rcases h.2 with ⟨e, _⟩ | ⟨g', cap, cur, h3, h4, h5, h6, h7, h8, h9⟩
  · cases e
  · have : g' = g := by have := (Value.slice.inj h3).1; simpa using this.symm
    subst this
    refine .inr ⟨g', cap, cur.setIfInBounds i (.int .u64 z), by simpa using h3, h4, heap_setCell_at h5, by simpa using h6, h7, by simpa using h8, ?_⟩
    rw [show wordsOf (l.set i z) = (wordsOf l).set i (.int .u64 z) by simp [wordsOf, List.map_set]]
    rw [← h9]
    simp [List.take_set]
theorem OwnW.v {w : World} {base g c : Nat} {l : List Int} (h : OwnW w base g c l) (hr : ∀ z ∈ l, 0 ≤ z ∧ z < 18446744073709551616) : WordsV w (some ⟨g, 0, none⟩) l.length c l := by
  obtain ⟨A, c', e, h1, h2, h3, h4, h5⟩ := own_form h
  cases e
  exact ⟨rfl, h1, h2, h3, h4, hr⟩
set_option maxRecDepth 100000 in
set_option maxHeartbeats 1000000 in
/-- slices.Clone of words -/
theorem clone_words (A : Option Addr) (n c : Nat) (l : List Int) (w : World) (hA : WordsV w A n c l) (hn : n ≤ 1000000) (h0 : 0 < n) :
    Calls Try.prog 120 #[.slice A n c] w fun e w' => ∃ g c', e = .returned (.slice (some ⟨g, 0, none⟩) n c') ∧ OwnW w' w.heap.size g c' l ∧ Ext w w' := by
  obtain ⟨i0, hi0, hz0, hz1, hz2⟩ := info_parts info_u64w
  have hbs : ∀ W : World, (Instr.buildSlice 31 0 #[]).run Try.prog W = .ok (.slice (some ⟨W.heap.size, 0, none⟩) 0 0) (W.alloc (.cells #[] 22)) := fun _ => by kernel_rfl
  have hnil := fun (W : World) (A : Option Addr) (n c : Nat) => Go.run_eql_slice_nil (P := Try.prog) W 31 22 A n c Try.underlying31
  have hlen := hA.len
  rcases A with _ | a
  · obtain ⟨rfl, rfl⟩ := hA.none0 rfl
    omega
  · have hW : Ext w (w.alloc (.cells #[] 22)) := (Below.refl _ w).alloc (Nat.le_refl _) _
    have hown0 : (w.alloc (.cells #[] 22)).ownsRow w.heap.size 22 1 (.slice (some ⟨w.heap.size, 0, none⟩) 0 0) 0 [] :=
      ⟨by simp, .inr ⟨_, 0, #[], rfl, Nat.le_refl _, heap_alloc_new w _, Nat.le_refl _, Nat.zero_le _, by simp, by simp⟩⟩
    go_enter Try.func120, Try.ntmps120
    go_wp2_with (at_builtin; refine wpList_append_own_any rfl (.tmp 5) (.tmp 6) _ _ rfl w.heap.size i0 _ 1 8 Try.underlying31 hi0 hz0 hz1 hz2 rfl (by decide) _ 0 [] rfl hown0 (some a) n c (wordsOf l) rfl (by rw [wordsOf_length, hlen]; omega) (hA.cells.ext hW) hA.none0 (wordsOf_one l) (by simp only [maxLen]; omega) (by omega) (by simp) ?_; intro v1 w1 hown1 hb1)
    try simp only [Nat.zero_add, List.nil_append] at hown1
    have hX := Below.trans hW hb1
    rcases hown1.2 with ⟨rfl, h⟩ | ⟨g, cap, cur, rfl, h4⟩
    · omega
    · go_ret
      subst hlen
      exact ⟨g, cap, rfl, hown1, hX⟩
section
variable {w w' : World} {g : Nat} {cs : List Value} {T : TypeId} {fr : Nat × Nat}
theorem WordsV.but {A : Option Addr} {n c : Nat} {l : List Int} (h : WordsV w A n c l) (hl : 2 ≤ l.length) (hb : But g w w') (hg : w.heap[g]? = some (.cells cs.toArray T fr)) (hx : boxish cs = true) : WordsV w' A n c l := by
  refine ⟨h.len, h.le, h.cap, h.nil, hb.cells h.cells fun hn a ha e => ?_, h.rng⟩
  obtain ⟨a', ha', hc⟩ := h.cells hn
  obtain rfl : a = a' := Option.some.inj (ha.symm.trans ha')
  subst e
  have h0 : (wordsOf l)[0]? = some (.int .u64 (l[0]'(by omega))) := by simp [wordsOf]
  have h1 : (wordsOf l)[1]? = some (.int .u64 (l[1]'(by omega))) := by simp [wordsOf]
  exact (boxish_two hx (cells_in hc hg h0) (cells_in hc hg h1)).2 ⟨rfl, rfl⟩
theorem BytesV.but {A : Option Addr} {n c : Nat} {l : List UInt8} (h : BytesV w A n c l) (hb : But g w w') (hg : w.heap[g]? = some (.cells cs.toArray T fr)) (hx : boxish cs = true) : BytesV w' A n c l := by
  refine ⟨h.len, h.le, h.cap, h.nil, hb.cells h.cells fun hn a ha e => ?_⟩
  obtain ⟨a', ha', hc⟩ := h.cells hn
  obtain rfl : a = a' := Option.some.inj (ha.symm.trans ha')
  subst e
  match l, hn with
  | [], hn => exact absurd rfl hn
  | x :: l, hn => exact boxish_one hx (cells_in hc hg (j := 0) (u := .int .u8 (x.toNat : Int)) rfl) rfl
theorem RowV.but {A : Option Addr} {n c : Nat} {l : List St} (h : RowV w A n c l) (hb : But g w w') (hg : w.heap[g]? = some (.cells cs.toArray T fr)) (hx : boxish cs = true) : RowV w' A n c l := by
  refine ⟨h.len, h.le, h.cap, h.nil, hb.cells h.cells fun hn a ha e => ?_, fun s hs => BytesV.but (h.ok s hs) hb hg hx⟩
  obtain ⟨a', ha', hc⟩ := h.cells hn
  obtain rfl : a = a' := Option.some.inj (ha.symm.trans ha')
  subst e
  match l, hn with
  | [], hn => exact absurd rfl hn
  | x :: l, hn => exact (boxish_two hx (cells_in hc hg (j := 0) (u := .slice x.D x.q x.cd) rfl) (cells_in hc hg (j := 1) (u := .int .i64 x.k) rfl)).1 ⟨rfl, rfl⟩
theorem DkK.but {v : Value} {R : Int} {n : Nat} {K0 K1 : List Key} (h : DkK w v R n K0 K1) (hb : But g w w') (hg : w.heap[g]? = some (.cells cs.toArray T fr)) (hx : boxish cs = true) : DkK w' v R n K0 K1 := by
  obtain ⟨l0, l1, ⟨A0, A1, c0, c1, e, h0, h1⟩, k0, k1⟩ := h
  exact ⟨l0, l1, ⟨A0, A1, c0, c1, e, h0.but hb hg hx, h1.but hb hg hx⟩, k0, k1⟩
theorem WldV.but {v : Value} {X : WldK} (h : WldV w v X) (hl : 2 ≤ X.ws.length) (hb : But g w w') (hg : w.heap[g]? = some (.cells cs.toArray T fr)) (hx : boxish cs = true) : WldV w' v X := by
  obtain ⟨A, q, c, A0, A1, c0, c1, e, h1, h2⟩ := h
  exact ⟨A, q, c, A0, A1, c0, c1, e, h1.but hl hb hg hx, h2.but hb hg hx⟩
theorem ResV.but {v : Value} {r : ResK} (h : ResV w v r) (hb : But g w w') (hg : w.heap[g]? = some (.cells cs.toArray T fr)) (hx : boxish cs = true) : ResV w' v r := by
  obtain ⟨B, q, c, e, h1⟩ := h
  exact ⟨B, q, c, e, h1.but hb hg hx⟩
end
end Go.Proofs.Ytjokaginolpbeaa
