import Derived.Test.YtkdjmfaodojmfaaPoolAlonePartA
import Derived.Lib.Hide
import Derived.Laws.MakeOwn
import Derived.Lib.AppendZeros
namespace Go.Proofs.Ytkdjmfaodojmfaa
open Go.RowKit

/-! disk.turn: one stream is turned. -/
theorem two_boxes7 (w : World) (o0 o1 : Obj) :
  Ext w ((w.alloc o0).alloc o1) ∧ ((w.alloc o0).alloc o1).heap[w.heap.size]? = some o0 ∧ ((w.alloc o0).alloc o1).heap[w.heap.size + 1]? = some o1 := by
 refine ⟨(((Below.refl _ w).alloc (Nat.le_refl _) _).alloc (by simp) _), ?_, ?_⟩
 ·rw [Below.heap_alloc _ _ _ (by first | (simp; omega) | simp)]
  simpa using heap_alloc_new w o0
 ·simpa using heap_alloc_new (w.alloc o0) o1
theorem heap_set_congr {w w' : World} {g i : Nat} {u : Value} (h : w.heap[g]? = w'.heap[g]?) : (w.setCell ⟨g, i, none⟩ u).heap[g]? = (w'.setCell ⟨g, i, none⟩ u).heap[g]? := by
 simp [World.setCell, Array.getElem?_modify, h]
theorem isB_row0 {i n0 n1 : Nat} (h : i < n0) : isB 0 i n0 n1 = true := by simp [isB, h]
theorem isB_row1 {i n0 n1 : Nat} (h : i < n1) : isB 1 i n0 n1 = true := by simp [isB, h]
set_option maxRecDepth 100000 in
set_option maxHeartbeats 1000000 in
/-- no such stream -/
theorem turn_no (R : Int) (A0 A1 : Option Addr) (n0 c0 n1 c1 : Nat) (row i : Int) (f : FuncId) (caps : Array Value) (w : World) (hno : isB row i n0 n1 = false) :
  Calls Try.prog 123 #[.agg #[.int .u64 R, .slice A0 n0 c0, .slice A1 n1 c1], .int .i64 row, .int .i64 i, .func (.func f) #[] caps] w fun e w' => e = .returned (.tuple #[.agg #[.int .u64 R, .slice A0 n0 c0, .slice A1 n1 c1], .int .i64 1]) ∧ Ext w w' := by
 go_enter Try.func123, Try.ntmps123
 go_upto_region 1 with (fail)
 obtain ⟨hW, hE, hO⟩ := two_boxes7 w (.cells #[.int .u64 R, .slice A0 n0 c0, .slice A1 n1 c1] 49) (.cells #[.int .u64 0, .slice none 0 0, .slice none 0 0] 49)
 generalize (w.alloc (.cells #[.int .u64 R, .slice A0 n0 c0, .slice A1 n1 c1] 49)).alloc (.cells #[.int .u64 0, .slice none 0 0, .slice none 0 0] 49) = W at *
 have e0 : W.cell? ⟨w.heap.size, 0, none⟩ = some (.int .u64 R) := by simp [World.cell?, hE]
 have e1 : W.cell? ⟨w.heap.size, 1, none⟩ = some (.slice A0 n0 c0) := by simp [World.cell?, hE]
 have e2 : W.cell? ⟨w.heap.size, 2, none⟩ = some (.slice A1 n1 c1) := by simp [World.cell?, hE]
 go_wp2_with fail
 refine (is_any7 R A0 A1 n0 c0 n1 c1 row i _).mono ?_
 rw [hno]
 rintro e w1 ⟨rfl, hx1⟩
 replace hE := heap_ext hE hx1
 replace hO := heap_ext hO hx1
 replace hW := hW.trans hx1
 clear e0 e1 e2 hx1
 have e0 : w1.cell? ⟨w.heap.size, 0, none⟩ = some (.int .u64 R) := by simp [World.cell?, hE]
 have e1 : w1.cell? ⟨w.heap.size, 1, none⟩ = some (.slice A0 n0 c0) := by simp [World.cell?, hE]
 have e2 : w1.cell? ⟨w.heap.size, 2, none⟩ = some (.slice A1 n1 c1) := by simp [World.cell?, hE]
 have d0 : w1.cell? ⟨w.heap.size + 1, 0, none⟩ = some (.int .u64 0) := by simp [World.cell?, hO]
 have df0 : w1.frozen? ⟨w.heap.size + 1, 0, none⟩ = false := by simp [World.frozen?, hO]
 have d1 : w1.cell? ⟨w.heap.size + 1, 1, none⟩ = some (.slice none 0 0) := by simp [World.cell?, hO]
 have df1 : w1.frozen? ⟨w.heap.size + 1, 1, none⟩ = false := by simp [World.frozen?, hO]
 have d2 : w1.cell? ⟨w.heap.size + 1, 2, none⟩ = some (.slice none 0 0) := by simp [World.cell?, hO]
 have df2 : w1.frozen? ⟨w.heap.size + 1, 2, none⟩ = false := by simp [World.frozen?, hO]
 clear hE hO
 go_wp2
 refine bodyPost_ret (v := .tuple #[.agg #[.int .u64 R, .slice A0 n0 c0, .slice A1 n1 c1], .int .i64 1]) (by simp [results, Try.results123, go_sem, d0, d1, d2]) rfl ⟨rfl, ?_⟩
 exact setAll_ext (g := w.heap.size + 1) (vs := [.int .u64 R, .slice A0 n0 c0, .slice A1 n1 c1]) (i := 0) hW (by omega)
set_option maxRecDepth 100000 in
set_option maxHeartbeats 4000000 in
theorem turn_row0 (R : Int) (A0 A1 : Option Addr) (n0 c0 n1 c1 : Nat) (i : Nat) (l : List St) (s : St) (f : FuncId) (caps : Array Value) (G : St → Prop) (w : World) (hrow : RowV w A0 n0 c0 l) (hs : l[i]? = some s) (hn0 : n0 ≤ 65536) (hn1 : n1 ≤ 65536)
  (hcall : ∀ (args : Array Value) (w : World), (callFunc f args).run Try.prog w = .ok (.enter f args) w)
  (hby : ∀ W, Ext w W → Calls Try.prog f (#[.agg #[.slice s.D s.q s.cd, .int .i64 s.k]] ++ caps) W fun e W' => ∃ s' : St, e = .returned (.agg #[.slice s'.D s'.q s'.cd, .int .i64 s'.k]) ∧ G s' ∧ StOK W' s' ∧ (s'.d ≠ [] → ∀ a, s'.D = some a → a.block < w.heap.size ∨ W.heap.size ≤ a.block) ∧ Ext W W') :
  Calls Try.prog 123 #[.agg #[.int .u64 R, .slice A0 n0 c0, .slice A1 n1 c1], .int .i64 0, .int .i64 i, .func (.func f) #[] caps] w fun e w' =>
   ∃ (A' : Option Addr) (c' : Nat) (s' : St), e = .returned (.tuple #[.agg #[.int .u64 R, .slice A' n0 c', .slice A1 n1 c1], .int .i64 0]) ∧ RowV w' A' n0 c' (l.set i s') ∧ G s' ∧ Ext w w' := by
 have hil : i < l.length := (List.getElem?_eq_some_iff.1 hs).1
 have hlen := hrow.len
 have hin : i < n0 := by omega
 have hini : (i : Int) < (n0 : Int) := by omega
 go_enter Try.func123, Try.ntmps123
 go_upto_region 1 with (fail)
 obtain ⟨hW, hE, hO⟩ := two_boxes7 w (.cells #[.int .u64 R, .slice A0 n0 c0, .slice A1 n1 c1] 49) (.cells #[.int .u64 0, .slice none 0 0, .slice none 0 0] 49)
 generalize (w.alloc (.cells #[.int .u64 R, .slice A0 n0 c0, .slice A1 n1 c1] 49)).alloc (.cells #[.int .u64 0, .slice none 0 0, .slice none 0 0] 49) = W at *
 have e0 : W.cell? ⟨w.heap.size, 0, none⟩ = some (.int .u64 R) := by simp [World.cell?, hE]
 have e1 : W.cell? ⟨w.heap.size, 1, none⟩ = some (.slice A0 n0 c0) := by simp [World.cell?, hE]
 have e2 : W.cell? ⟨w.heap.size, 2, none⟩ = some (.slice A1 n1 c1) := by simp [World.cell?, hE]
 go_wp2_with fail
 refine (is_any7 R A0 A1 n0 c0 n1 c1 0 i _).mono ?_
 rw [isB_row0 hin]
 rintro e w1 ⟨rfl, hx1⟩
 replace hE := heap_ext hE hx1
 replace hO := heap_ext hO hx1
 replace hW := hW.trans hx1
 clear e0 e1 e2 hx1
 have e0 : w1.cell? ⟨w.heap.size, 0, none⟩ = some (.int .u64 R) := by simp [World.cell?, hE]
 have e1 : w1.cell? ⟨w.heap.size, 1, none⟩ = some (.slice A0 n0 c0) := by simp [World.cell?, hE]
 have e2 : w1.cell? ⟨w.heap.size, 2, none⟩ = some (.slice A1 n1 c1) := by simp [World.cell?, hE]
 have hsz1 : w.heap.size + 1 < w1.heap.size := (Array.getElem?_eq_some_iff.1 hO).1
 go_wp2_with fail
 refine (clone_row A0 n0 c0 l _ (hrow.ext hW) (by omega)).mono ?_
 rintro e w2 ⟨v, rfl, hown, hx2⟩
 obtain ⟨gc, cc, rfl, hgb, hglt, hncc, -, -, -, -, -⟩ := hown.at hs
 replace hE := heap_ext hE hx2
 replace hO := heap_ext hO hx2
 replace hW := hW.trans hx2
 clear e0 e1 e2 hx2
 have e0 : w2.cell? ⟨w.heap.size, 0, none⟩ = some (.int .u64 R) := by simp [World.cell?, hE]
 have ef0 : w2.frozen? ⟨w.heap.size, 0, none⟩ = false := by simp [World.frozen?, hE]
 have e1 : w2.cell? ⟨w.heap.size, 1, none⟩ = some (.slice A0 n0 c0) := by simp [World.cell?, hE]
 have ef1 : w2.frozen? ⟨w.heap.size, 1, none⟩ = false := by simp [World.frozen?, hE]
 have e2 : w2.cell? ⟨w.heap.size, 2, none⟩ = some (.slice A1 n1 c1) := by simp [World.cell?, hE]
 have ef2 : w2.frozen? ⟨w.heap.size, 2, none⟩ = false := by simp [World.frozen?, hE]
 go_upto_region 4 with (fail)
 have hE3 : (w2.setCell ⟨w.heap.size, 1, none⟩ (.slice (some ⟨gc, 0, none⟩) n0 cc)).heap[w.heap.size]? = some (.cells #[.int .u64 R, .slice (some ⟨gc, 0, none⟩) n0 cc, .slice A1 n1 c1] 49 (0, 0)) := heap_setCell_at hE
 have hO3 : (w2.setCell ⟨w.heap.size, 1, none⟩ (.slice (some ⟨gc, 0, none⟩) n0 cc)).heap[w.heap.size + 1]? = _ := (Below.heap_setCell _ _ _ _ (by simp)).trans hO
 have hW3 : Ext w (w2.setCell ⟨w.heap.size, 1, none⟩ (.slice (some ⟨gc, 0, none⟩) n0 cc)) := hW.setCell (Nat.le_refl _) _
 have hown3 : OwnR (w2.setCell ⟨w.heap.size, 1, none⟩ (.slice (some ⟨gc, 0, none⟩) n0 cc)) w1.heap.size (.slice (some ⟨gc, 0, none⟩) n0 cc) n0 l :=
  hown.other (by simp; omega) fun x hx => (hrow.ok x hx).ext hW3
 clear e0 e1 e2 ef0 ef1 ef2 hE hO hW hown
 generalize w2.setCell ⟨w.heap.size, 1, none⟩ (.slice (some ⟨gc, 0, none⟩) n0 cc) = W3 at *
 obtain ⟨g', c', hgc, -, hgl3', -, s0, s1, f0, f1, hset⟩ := hown3.at hs
 obtain ⟨rfl, rfl⟩ : gc = g' ∧ cc = c' := by simpa using hgc
 clear hgc
 have hgl3 : gc < W3.heap.size := hgl3'
 have hw0 : w.heap.size + 1 < gc := by omega
 have ne1 : ¬ gc = w.heap.size := by omega
 have ne2 : ¬ gc = w.heap.size + 1 := by omega
 have ne3 : ¬ w.heap.size = gc := by omega
 have ne4 : ¬ w.heap.size + 1 = gc := by omega
 have hX : ∀ wx, Ext W3 wx → wx.cell? ⟨w.heap.size, 1, none⟩ = some (.slice (some ⟨gc, 0, none⟩) n0 cc) ∧ wx.cell? ⟨gc, i * 2, none⟩ = some (.slice s.D s.q s.cd) ∧ wx.cell? ⟨gc, i * 2 + 1, none⟩ = some (.int .i64 s.k) ∧ Ext w wx := fun wx hx =>
  ⟨hx.cell (by simp [World.cell?, hE3]), hx.cell s0, hx.cell s1, hW3.trans hx⟩
 obtain ⟨gE, hgE⟩ : ∃ g, g = w.heap.size := ⟨_, rfl⟩
 refine' SB.wp_region_sure (gx := []) (Pn := fun _ _ => False) ⟨((some 24, [], none) :: (some 25, [], none) :: (some 26, [1, 0], none) :: (some 27, [2], none) :: (some 28, [], none) :: (some 29, [], none) :: (some 30, [], none) :: (some 31, [], none) :: (some 32, [7, 6], none) :: (some 33, [8], none) :: (some 34, [], none) :: (some 35, [9, 10], none) :: (some 36, [11], none) :: (some 37, [5, 12], none) :: (some 38, [3, 4, 0, 1, 2, 3, 4, 5, 6, 7, 8, 9, 10, 11, 12, 13], none) :: (none, [14, 13, 13, 0, 1, 2, 3, 4, 5, 6, 7, 8, 9, 10, 11, 12, 13], none) :: []), (0 :: 0 :: 3 :: 7 :: 0 :: 0 :: 0 :: 0 :: 192 :: 448 :: 0 :: 1984 :: 4032 :: 8160 :: 16383 :: 32767 :: []), (none :: none :: none :: none :: none :: none :: none :: none :: none :: none :: none :: none :: none :: some [] :: []), []⟩ 14 40 ((0, 24) :: (1, 25) :: (2, 26) :: (3, 27) :: (4, 28) :: (5, 29) :: (6, 30) :: (7, 31) :: (8, 32) :: (9, 33) :: (10, 34) :: (11, 35) :: (12, 36) :: (13, 37) :: []) ((0, 24) :: (1, 25) :: (2, 26) :: (3, 27) :: (4, 28) :: (5, 29) :: (6, 30) :: (7, 31) :: (8, 32) :: (9, 33) :: (10, 34) :: (11, 35) :: (12, 36) :: (13, 37) :: []) (.det _ :: .det _ :: .det _ :: .det _ :: .det _ :: .det _ :: .det _ :: .det _ :: .det _ :: .det _ :: .det _ :: .det _ :: .det _ :: SB.Good.of (fun v w => ∃ s' : St, v = .agg #[.slice s'.D s'.q s'.cd, .int .i64 s'.k] ∧ G s' ∧ StOK w s' ∧ (s'.d ≠ [] → ∀ a, s'.D = some a → a.block ≠ gc ∧ a.block ≠ gE ∧ a.block ≠ gE + 1)) (fun v w w' h hx => let ⟨s', e, hg, ho, hf⟩ := h; ⟨s', e, hg, ho.ext hx, hf⟩) :: []) (by kernel_rfl) ?hpan (by kernel_rfl) (by kernel_rfl) rfl (by kernel_rfl) (by kernel_rfl) rfl ?hone ?hend
 case hpan =>
  intro _ _ _ _ h; exact h.elim
 case hone =>
  intro CS frS VS hCS ha hV
  have qs1 := slot_val (t := 1) ha rfl
  simp only [List.getElem_toArray, List.getElem_cons_succ, List.getElem_cons_zero] at qs1
  have qs2 := slot_val (t := 2) ha rfl
  simp only [List.getElem_toArray, List.getElem_cons_succ, List.getElem_cons_zero] at qs2
  have qs3 := slot_val (t := 3) ha rfl
  simp only [List.getElem_toArray, List.getElem_cons_succ, List.getElem_cons_zero] at qs3
  have qs4 := slot_val (t := 4) ha rfl
  simp only [List.getElem_toArray, List.getElem_cons_succ, List.getElem_cons_zero] at qs4
  have HCS := Lib.hid hCS
  have HVS := Lib.hid hV
  clear ha hCS hV
  refine SB.sure_det (js := []) (ts := [1]) (gd := none) (bs := []) (SB.place_at HVS.out (k := 0) rfl) (by rw [HCS.out]; kernel_rfl) (by rw [HCS.out]; kernel_rfl) ?_ ?_
  ·intro wx hx ρ hρ hs hf; have hρc := hρ.const; have hρf := hρ.func
   obtain ⟨fx1, -⟩ := hf; rw [qs1] at fx1
   clear hs
   clear HCS HVS qs1 qs2 qs3 qs4
   refine SB.run_plain ?_
   refine SB.op_move rfl fx1 ?_
   exact SB.detK.mk
  refine SB.sure_det (js := []) (ts := [4]) (gd := none) (bs := []) (SB.place_at HVS.out (k := 1) rfl) (by rw [HCS.out]; kernel_rfl) (by rw [HCS.out]; kernel_rfl) ?_ ?_
  ·intro wx hx ρ hρ hs hf; have hρc := hρ.const; have hρf := hρ.func
   obtain ⟨fx4, -⟩ := hf; rw [qs4] at fx4
   clear hs
   clear HCS HVS qs1 qs2 qs3 qs4
   refine SB.run_plain ?_
   unfold SB.runs
   go_simp
   exact SB.detK.mk
  refine SB.sure_det (js := [(1, 25), (0, 24)]) (ts := []) (gd := none) (bs := []) (SB.place_at HVS.out (k := 2) rfl) (by rw [HCS.out]; kernel_rfl) (by rw [HCS.out]; kernel_rfl) ?_ ?_
  ·intro wx hx ρ hρ hs hf; have hρc := hρ.const; have hρf := hρ.func; obtain ⟨sn1, sn0, -⟩ := hs
   rw [SB.place_at HVS.out (k := 1) rfl] at sn1; replace sn1 : ρ (.tmp 25) = _ := sn1
   rw [SB.place_at HVS.out (k := 0) rfl] at sn0; replace sn0 : ρ (.tmp 24) = _ := sn0
   clear hf
   clear HCS HVS qs1 qs2 qs3 qs4
   refine SB.run_plain ?_
   unfold SB.runs
   go_simp
   exact SB.detK.mk
  refine SB.sure_det (js := [(2, 26)]) (ts := []) (gd := none) (bs := []) (SB.place_at HVS.out (k := 3) rfl) (by rw [HCS.out]; kernel_rfl) (by rw [HCS.out]; kernel_rfl) ?_ ?_
  ·intro wx hx ρ hρ hs hf; have hρc := hρ.const; have hρf := hρ.func; obtain ⟨sn2, -⟩ := hs
   rw [SB.place_at HVS.out (k := 2) rfl] at sn2; replace sn2 : ρ (.tmp 26) = _ := sn2
   clear hf
   clear HCS HVS qs1 qs2 qs3 qs4
   refine SB.run_plain ?_
   obtain ⟨p0, p1, p2, pE⟩ := hX wx hx.ext.drawn
   unfold SB.runs
   go_simp
   exact SB.detK.mk
  refine SB.sure_det (js := []) (ts := [2]) (gd := none) (bs := []) (SB.place_at HVS.out (k := 4) rfl) (by rw [HCS.out]; kernel_rfl) (by rw [HCS.out]; kernel_rfl) ?_ ?_
  ·intro wx hx ρ hρ hs hf; have hρc := hρ.const; have hρf := hρ.func
   obtain ⟨fx2, -⟩ := hf; rw [qs2] at fx2
   clear hs
   clear HCS HVS qs1 qs2 qs3 qs4
   refine SB.run_plain ?_
   refine SB.op_move rfl fx2 ?_
   exact SB.detK.mk
  refine SB.sure_det (js := []) (ts := [3]) (gd := none) (bs := []) (SB.place_at HVS.out (k := 5) rfl) (by rw [HCS.out]; kernel_rfl) (by rw [HCS.out]; kernel_rfl) ?_ ?_
  ·intro wx hx ρ hρ hs hf; have hρc := hρ.const; have hρf := hρ.func
   obtain ⟨fx3, -⟩ := hf; rw [qs3] at fx3
   clear hs
   clear HCS HVS qs1 qs2 qs3 qs4
   refine SB.run_plain ?_
   refine SB.op_move rfl fx3 ?_
   exact SB.detK.mk
  refine SB.sure_det (js := []) (ts := [1]) (gd := none) (bs := []) (SB.place_at HVS.out (k := 6) rfl) (by rw [HCS.out]; kernel_rfl) (by rw [HCS.out]; kernel_rfl) ?_ ?_
  ·intro wx hx ρ hρ hs hf; have hρc := hρ.const; have hρf := hρ.func
   obtain ⟨fx1, -⟩ := hf; rw [qs1] at fx1
   clear hs
   clear HCS HVS qs1 qs2 qs3 qs4
   refine SB.run_plain ?_
   refine SB.op_move rfl fx1 ?_
   exact SB.detK.mk
  refine SB.sure_det (js := []) (ts := [4]) (gd := none) (bs := []) (SB.place_at HVS.out (k := 7) rfl) (by rw [HCS.out]; kernel_rfl) (by rw [HCS.out]; kernel_rfl) ?_ ?_
  ·intro wx hx ρ hρ hs hf; have hρc := hρ.const; have hρf := hρ.func
   obtain ⟨fx4, -⟩ := hf; rw [qs4] at fx4
   clear hs
   clear HCS HVS qs1 qs2 qs3 qs4
   refine SB.run_plain ?_
   unfold SB.runs
   go_simp
   exact SB.detK.mk
  refine SB.sure_det (js := [(7, 31), (6, 30)]) (ts := []) (gd := none) (bs := []) (SB.place_at HVS.out (k := 8) rfl) (by rw [HCS.out]; kernel_rfl) (by rw [HCS.out]; kernel_rfl) ?_ ?_
  ·intro wx hx ρ hρ hs hf; have hρc := hρ.const; have hρf := hρ.func; obtain ⟨sn7, sn6, -⟩ := hs
   rw [SB.place_at HVS.out (k := 7) rfl] at sn7; replace sn7 : ρ (.tmp 31) = _ := sn7
   rw [SB.place_at HVS.out (k := 6) rfl] at sn6; replace sn6 : ρ (.tmp 30) = _ := sn6
   clear hf
   clear HCS HVS qs1 qs2 qs3 qs4
   refine SB.run_plain ?_
   unfold SB.runs
   go_simp
   exact SB.detK.mk
  refine SB.sure_det (js := [(8, 32)]) (ts := []) (gd := none) (bs := []) (SB.place_at HVS.out (k := 9) rfl) (by rw [HCS.out]; kernel_rfl) (by rw [HCS.out]; kernel_rfl) ?_ ?_
  ·intro wx hx ρ hρ hs hf; have hρc := hρ.const; have hρf := hρ.func; obtain ⟨sn8, -⟩ := hs
   rw [SB.place_at HVS.out (k := 8) rfl] at sn8; replace sn8 : ρ (.tmp 32) = _ := sn8
   clear hf
   clear HCS HVS qs1 qs2 qs3 qs4
   refine SB.run_plain ?_
   obtain ⟨p0, p1, p2, pE⟩ := hX wx hx.ext.drawn
   unfold SB.runs
   go_simp
   exact SB.detK.mk
  refine SB.sure_det (js := []) (ts := [2]) (gd := none) (bs := []) (SB.place_at HVS.out (k := 10) rfl) (by rw [HCS.out]; kernel_rfl) (by rw [HCS.out]; kernel_rfl) ?_ ?_
  ·intro wx hx ρ hρ hs hf; have hρc := hρ.const; have hρf := hρ.func
   obtain ⟨fx2, -⟩ := hf; rw [qs2] at fx2
   clear hs
   clear HCS HVS qs1 qs2 qs3 qs4
   refine SB.run_plain ?_
   refine SB.op_move rfl fx2 ?_
   exact SB.detK.mk
  refine SB.sure_det (js := [(9, 33), (10, 34)]) (ts := []) (gd := none) (bs := []) (SB.place_at HVS.out (k := 11) rfl) (by rw [HCS.out]; kernel_rfl) (by rw [HCS.out]; kernel_rfl) ?_ ?_
  ·intro wx hx ρ hρ hs hf; have hρc := hρ.const; have hρf := hρ.func; obtain ⟨sn9, sn10, -⟩ := hs
   rw [SB.place_at HVS.out (k := 9) rfl] at sn9; replace sn9 : ρ (.tmp 33) = _ := sn9
   rw [SB.place_at HVS.out (k := 10) rfl] at sn10; replace sn10 : ρ (.tmp 34) = _ := sn10
   clear hf
   clear HCS HVS qs1 qs2 qs3 qs4
   refine SB.run_plain ?_
   unfold SB.runs
   go_simp
   exact SB.detK.mk
  refine SB.sure_det (js := [(11, 35)]) (ts := []) (gd := none) (bs := []) (SB.place_at HVS.out (k := 12) rfl) (by rw [HCS.out]; kernel_rfl) (by rw [HCS.out]; kernel_rfl) ?_ ?_
  ·intro wx hx ρ hρ hs hf; have hρc := hρ.const; have hρf := hρ.func; obtain ⟨sn11, -⟩ := hs
   rw [SB.place_at HVS.out (k := 11) rfl] at sn11; replace sn11 : ρ (.tmp 35) = _ := sn11
   clear hf
   clear HCS HVS qs1 qs2 qs3 qs4
   refine SB.run_plain ?_
   obtain ⟨p0, p1, p2, pE⟩ := hX wx hx.ext.drawn
   unfold SB.runs
   go_simp
   exact SB.detK.mk
  refine SB.sure_op (js := [(5, 29), (12, 36)]) (ts := []) (gd := none) (bs := []) (SB.place_at HVS.out (k := 13) rfl) (by rw [HCS.out]; kernel_rfl) (by rw [HCS.out]; kernel_rfl) ?_ ?_
  ·intro wx hx ρ hρ hs hf; have hρc := hρ.const; have hρf := hρ.func; obtain ⟨sn5, sn12, -⟩ := hs
   rw [SB.place_at HVS.out (k := 5) rfl] at sn5; replace sn5 : ρ (.tmp 29) = _ := sn5
   rw [SB.place_at HVS.out (k := 12) rfl] at sn12; replace sn12 : ρ (.tmp 36) = _ := sn12
   clear hf
   clear HCS HVS qs1 qs2 qs3 qs4
   refine SB.run_plain ?_
   refine SB.op_callv rfl sn5 hcall (map_one sn12) ?_
   refine Calls.mono (hby wx (hX wx hx.ext.drawn).2.2.2) ?_
   rintro e w' ⟨s', rfl, hg, ho, hfar, hx5⟩
   have hsx := hx.ext.drawn.size
   exact .inl ⟨_, rfl, hx5, s', rfl, hg, ho, fun hd a ha => by rcases hfar hd a ha with h | h <;> omega⟩
  exact trivial
 case hend =>
  intro xs wx hx hg hq
  have gk0 : xs 0 = _ := SB.goods_get hg (i := 0) (j := 0) (d := 24) rfl
  have gk1 : xs 1 = _ := SB.goods_get hg (i := 1) (j := 1) (d := 25) rfl
  have gk2 : xs 2 = _ := SB.goods_get hg (i := 2) (j := 2) (d := 26) rfl
  have gk3 : xs 3 = _ := SB.goods_get hg (i := 3) (j := 3) (d := 27) rfl
  have gk4 : xs 4 = _ := SB.goods_get hg (i := 4) (j := 4) (d := 28) rfl
  have gk5 : xs 5 = _ := SB.goods_get hg (i := 5) (j := 5) (d := 29) rfl
  have gk6 : xs 6 = _ := SB.goods_get hg (i := 6) (j := 6) (d := 30) rfl
  have gk7 : xs 7 = _ := SB.goods_get hg (i := 7) (j := 7) (d := 31) rfl
  have gk8 : xs 8 = _ := SB.goods_get hg (i := 8) (j := 8) (d := 32) rfl
  have gk9 : xs 9 = _ := SB.goods_get hg (i := 9) (j := 9) (d := 33) rfl
  have gk10 : xs 10 = _ := SB.goods_get hg (i := 10) (j := 10) (d := 34) rfl
  have gk11 : xs 11 = _ := SB.goods_get hg (i := 11) (j := 11) (d := 35) rfl
  have gk12 : xs 12 = _ := SB.goods_get hg (i := 12) (j := 12) (d := 36) rfl
  have gk13 : ∃ s' : St, (xs 13) = .agg #[.slice s'.D s'.q s'.cd, .int .i64 s'.k] ∧ G s' ∧ StOK wx s' ∧ (s'.d ≠ [] → ∀ a, s'.D = some a → a.block ≠ gc ∧ a.block ≠ gE ∧ a.block ≠ gE + 1) := SB.goods_get hg (i := 13) (j := 13) (d := 37) rfl
  clear hg hq
  simp only [putAll, gk0, gk1, gk2, gk3, gk4, gk5, gk6, gk7, gk8, gk9, gk10, gk11, gk12]
  clear gk0 gk1 gk2 gk3 gk4 gk5 gk6 gk7 gk8 gk9 gk10 gk11 gk12
  generalize xs 13 = vx13 at gk13 ⊢
  clear xs
  simp only [Act.put, List.setIfInBounds_toArray, List.set_cons_zero, List.set_cons_succ, List.drop_succ_cons, List.drop_zero]
  obtain ⟨s', e', hg', hok', hfar⟩ := gk13
  subst e'
  subst hgE
  have hxx : Ext W3 wx := (SB.ExtS.ext hx).drawn
  have x0 := hxx.cell s0
  have x1 := hxx.cell s1
  have y0 : wx.frozen? ⟨gc, i * 2, none⟩ = false := by rw [hxx.frozen hgl3]; exact f0
  have y1 : wx.frozen? ⟨gc, i * 2 + 1, none⟩ = false := by rw [hxx.frozen hgl3]; exact f1
  have hE4 := heap_ext hE3 hxx
  have hO4 := heap_ext hO3 hxx
  have e0 : wx.cell? ⟨w.heap.size, 0, none⟩ = some (.int .u64 R) := by simp [World.cell?, hE4]
  have e1 : wx.cell? ⟨w.heap.size, 1, none⟩ = some (.slice (some ⟨gc, 0, none⟩) n0 cc) := by simp [World.cell?, hE4]
  have e2 : wx.cell? ⟨w.heap.size, 2, none⟩ = some (.slice A1 n1 c1) := by simp [World.cell?, hE4]
  have d0 : wx.cell? ⟨w.heap.size + 1, 0, none⟩ = some (.int .u64 0) := by simp [World.cell?, hO4]
  have df0 : wx.frozen? ⟨w.heap.size + 1, 0, none⟩ = false := by simp [World.frozen?, hO4]
  have d1 : wx.cell? ⟨w.heap.size + 1, 1, none⟩ = some (.slice none 0 0) := by simp [World.cell?, hO4]
  have df1 : wx.frozen? ⟨w.heap.size + 1, 1, none⟩ = false := by simp [World.frozen?, hO4]
  have d2 : wx.cell? ⟨w.heap.size + 1, 2, none⟩ = some (.slice none 0 0) := by simp [World.cell?, hO4]
  have df2 : wx.frozen? ⟨w.heap.size + 1, 2, none⟩ = false := by simp [World.frozen?, hO4]
  have hblk := hxx.block gc hgl3
  have hokx : ∀ x ∈ l, StOK wx x := fun x hx' => (hrow.ok x hx').ext (hW3.trans hxx)
  have hX4 := hW3.trans hxx
  clear hE3 hO3 hE4 hO4 hX hx hW3 hxx s0 s1 f0 f1 hown3
  go_wp2
  refine bodyPost_ret (v := .tuple #[.agg #[.int .u64 R, .slice (some ⟨gc, 0, none⟩) n0 cc, .slice A1 n1 c1], .int .i64 0]) (by simp [results, Try.results123, go_sem, d0, d1, d2]) rfl ?_
  have hlow : ∀ x ∈ l, x.d ≠ [] → ∀ a, x.D = some a → a.block ≠ gc ∧ a.block ≠ w.heap.size ∧ a.block ≠ w.heap.size + 1 := fun x hx hd a ha => by have := (hrow.ok x hx).low hd a ha; omega
  have hst : ∀ x, StOK wx x → (x.d ≠ [] → ∀ a, x.D = some a → a.block ≠ gc ∧ a.block ≠ w.heap.size ∧ a.block ≠ w.heap.size + 1) → StOK (setAll (w.heap.size + 1) 0 [.int .u64 R, .slice (some ⟨gc, 0, none⟩) n0 cc, .slice A1 n1 c1] ((wx.setCell ⟨gc, i * 2, none⟩ (.slice s'.D s'.q s'.cd)).setCell ⟨gc, i * 2 + 1, none⟩ (.int .i64 s'.k))) x := fun x h hf =>
   ((((h.set (fun hd a ha => (hf hd a ha).1) _).set (fun hd a ha => (hf hd a ha).1) _).set (fun hd a ha => (hf hd a ha).2.2) _).set (fun hd a ha => (hf hd a ha).2.2) _).set (fun hd a ha => (hf hd a ha).2.2) _
  have hnew := hset s' (setAll (w.heap.size + 1) 0 [.int .u64 R, .slice (some ⟨gc, 0, none⟩) n0 cc, .slice A1 n1 c1] ((wx.setCell ⟨gc, i * 2, none⟩ (.slice s'.D s'.q s'.cd)).setCell ⟨gc, i * 2 + 1, none⟩ (.int .i64 s'.k)))
   (fun x hx => by
    rcases List.mem_cons.1 hx with rfl | hx
    ·exact hst _ hok' hfar
    ·exact hst _ (hokx x hx) (hlow x hx))
   (by
    rw [setAll_other (by omega)]
    exact heap_set_congr (heap_set_congr hblk))
  obtain ⟨A', c', e', hr⟩ := hnew.form
  cases e'
  refine ⟨_, _, s', rfl, hr, hg', ?_⟩
  have hx5 : Ext w ((wx.setCell ⟨gc, i * 2, none⟩ (.slice s'.D s'.q s'.cd)).setCell ⟨gc, i * 2 + 1, none⟩ (.int .i64 s'.k)) := (hX4.setCell (show w.heap.size ≤ gc by omega) _).setCell (show w.heap.size ≤ gc by omega) _
  exact setAll_ext (g := w.heap.size + 1) (vs := [.int .u64 R, .slice (some ⟨gc, 0, none⟩) n0 cc, .slice A1 n1 c1]) (i := 0) hx5 (by omega)
set_option maxRecDepth 100000 in
set_option maxHeartbeats 4000000 in
theorem turn_row1 (R : Int) (A0 A1 : Option Addr) (n0 c0 n1 c1 : Nat) (i : Nat) (l : List St) (s : St) (f : FuncId) (caps : Array Value) (G : St → Prop) (w : World) (hrow : RowV w A1 n1 c1 l) (hs : l[i]? = some s) (hn0 : n0 ≤ 65536) (hn1 : n1 ≤ 65536)
  (hcall : ∀ (args : Array Value) (w : World), (callFunc f args).run Try.prog w = .ok (.enter f args) w)
  (hby : ∀ W, Ext w W → Calls Try.prog f (#[.agg #[.slice s.D s.q s.cd, .int .i64 s.k]] ++ caps) W fun e W' => ∃ s' : St, e = .returned (.agg #[.slice s'.D s'.q s'.cd, .int .i64 s'.k]) ∧ G s' ∧ StOK W' s' ∧ (s'.d ≠ [] → ∀ a, s'.D = some a → a.block < w.heap.size ∨ W.heap.size ≤ a.block) ∧ Ext W W') :
  Calls Try.prog 123 #[.agg #[.int .u64 R, .slice A0 n0 c0, .slice A1 n1 c1], .int .i64 1, .int .i64 i, .func (.func f) #[] caps] w fun e w' =>
   ∃ (A' : Option Addr) (c' : Nat) (s' : St), e = .returned (.tuple #[.agg #[.int .u64 R, .slice A0 n0 c0, .slice A' n1 c'], .int .i64 0]) ∧ RowV w' A' n1 c' (l.set i s') ∧ G s' ∧ Ext w w' := by
 have hil : i < l.length := (List.getElem?_eq_some_iff.1 hs).1
 have hlen := hrow.len
 have hin : i < n1 := by omega
 have hini : (i : Int) < (n1 : Int) := by omega
 go_enter Try.func123, Try.ntmps123
 go_upto_region 1 with (fail)
 obtain ⟨hW, hE, hO⟩ := two_boxes7 w (.cells #[.int .u64 R, .slice A0 n0 c0, .slice A1 n1 c1] 49) (.cells #[.int .u64 0, .slice none 0 0, .slice none 0 0] 49)
 generalize (w.alloc (.cells #[.int .u64 R, .slice A0 n0 c0, .slice A1 n1 c1] 49)).alloc (.cells #[.int .u64 0, .slice none 0 0, .slice none 0 0] 49) = W at *
 have e0 : W.cell? ⟨w.heap.size, 0, none⟩ = some (.int .u64 R) := by simp [World.cell?, hE]
 have e1 : W.cell? ⟨w.heap.size, 1, none⟩ = some (.slice A0 n0 c0) := by simp [World.cell?, hE]
 have e2 : W.cell? ⟨w.heap.size, 2, none⟩ = some (.slice A1 n1 c1) := by simp [World.cell?, hE]
 go_wp2_with fail
 refine (is_any7 R A0 A1 n0 c0 n1 c1 1 i _).mono ?_
 rw [isB_row1 hin]
 rintro e w1 ⟨rfl, hx1⟩
 replace hE := heap_ext hE hx1
 replace hO := heap_ext hO hx1
 replace hW := hW.trans hx1
 clear e0 e1 e2 hx1
 have e0 : w1.cell? ⟨w.heap.size, 0, none⟩ = some (.int .u64 R) := by simp [World.cell?, hE]
 have e1 : w1.cell? ⟨w.heap.size, 1, none⟩ = some (.slice A0 n0 c0) := by simp [World.cell?, hE]
 have e2 : w1.cell? ⟨w.heap.size, 2, none⟩ = some (.slice A1 n1 c1) := by simp [World.cell?, hE]
 have hsz1 : w.heap.size + 1 < w1.heap.size := (Array.getElem?_eq_some_iff.1 hO).1
 go_wp2_with fail
 refine (clone_row A1 n1 c1 l _ (hrow.ext hW) (by omega)).mono ?_
 rintro e w2 ⟨v, rfl, hown, hx2⟩
 obtain ⟨gc, cc, rfl, hgb, hglt, hncc, -, -, -, -, -⟩ := hown.at hs
 replace hE := heap_ext hE hx2
 replace hO := heap_ext hO hx2
 replace hW := hW.trans hx2
 clear e0 e1 e2 hx2
 have e0 : w2.cell? ⟨w.heap.size, 0, none⟩ = some (.int .u64 R) := by simp [World.cell?, hE]
 have ef0 : w2.frozen? ⟨w.heap.size, 0, none⟩ = false := by simp [World.frozen?, hE]
 have e1 : w2.cell? ⟨w.heap.size, 1, none⟩ = some (.slice A0 n0 c0) := by simp [World.cell?, hE]
 have ef1 : w2.frozen? ⟨w.heap.size, 1, none⟩ = false := by simp [World.frozen?, hE]
 have e2 : w2.cell? ⟨w.heap.size, 2, none⟩ = some (.slice A1 n1 c1) := by simp [World.cell?, hE]
 have ef2 : w2.frozen? ⟨w.heap.size, 2, none⟩ = false := by simp [World.frozen?, hE]
 go_upto_region 4 with (fail)
 have hE3 : (w2.setCell ⟨w.heap.size, 2, none⟩ (.slice (some ⟨gc, 0, none⟩) n1 cc)).heap[w.heap.size]? = some (.cells #[.int .u64 R, .slice A0 n0 c0, .slice (some ⟨gc, 0, none⟩) n1 cc] 49 (0, 0)) := heap_setCell_at hE
 have hO3 : (w2.setCell ⟨w.heap.size, 2, none⟩ (.slice (some ⟨gc, 0, none⟩) n1 cc)).heap[w.heap.size + 1]? = _ := (Below.heap_setCell _ _ _ _ (by simp)).trans hO
 have hW3 : Ext w (w2.setCell ⟨w.heap.size, 2, none⟩ (.slice (some ⟨gc, 0, none⟩) n1 cc)) := hW.setCell (Nat.le_refl _) _
 have hown3 : OwnR (w2.setCell ⟨w.heap.size, 2, none⟩ (.slice (some ⟨gc, 0, none⟩) n1 cc)) w1.heap.size (.slice (some ⟨gc, 0, none⟩) n1 cc) n1 l :=
  hown.other (by simp; omega) fun x hx => (hrow.ok x hx).ext hW3
 clear e0 e1 e2 ef0 ef1 ef2 hE hO hW hown
 generalize w2.setCell ⟨w.heap.size, 2, none⟩ (.slice (some ⟨gc, 0, none⟩) n1 cc) = W3 at *
 obtain ⟨g', c', hgc, -, hgl3', -, s0, s1, f0, f1, hset⟩ := hown3.at hs
 obtain ⟨rfl, rfl⟩ : gc = g' ∧ cc = c' := by simpa using hgc
 clear hgc
 have hgl3 : gc < W3.heap.size := hgl3'
 have hw0 : w.heap.size + 1 < gc := by omega
 have ne1 : ¬ gc = w.heap.size := by omega
 have ne2 : ¬ gc = w.heap.size + 1 := by omega
 have ne3 : ¬ w.heap.size = gc := by omega
 have ne4 : ¬ w.heap.size + 1 = gc := by omega
 have hX : ∀ wx, Ext W3 wx → wx.cell? ⟨w.heap.size, 2, none⟩ = some (.slice (some ⟨gc, 0, none⟩) n1 cc) ∧ wx.cell? ⟨gc, i * 2, none⟩ = some (.slice s.D s.q s.cd) ∧ wx.cell? ⟨gc, i * 2 + 1, none⟩ = some (.int .i64 s.k) ∧ Ext w wx := fun wx hx =>
  ⟨hx.cell (by simp [World.cell?, hE3]), hx.cell s0, hx.cell s1, hW3.trans hx⟩
 obtain ⟨gE, hgE⟩ : ∃ g, g = w.heap.size := ⟨_, rfl⟩
 refine' SB.wp_region_sure (gx := []) (Pn := fun _ _ => False) ⟨((some 24, [], none) :: (some 25, [], none) :: (some 26, [1, 0], none) :: (some 27, [2], none) :: (some 28, [], none) :: (some 29, [], none) :: (some 30, [], none) :: (some 31, [], none) :: (some 32, [7, 6], none) :: (some 33, [8], none) :: (some 34, [], none) :: (some 35, [9, 10], none) :: (some 36, [11], none) :: (some 37, [5, 12], none) :: (some 38, [3, 4, 0, 1, 2, 3, 4, 5, 6, 7, 8, 9, 10, 11, 12, 13], none) :: (none, [14, 13, 13, 0, 1, 2, 3, 4, 5, 6, 7, 8, 9, 10, 11, 12, 13], none) :: []), (0 :: 0 :: 3 :: 7 :: 0 :: 0 :: 0 :: 0 :: 192 :: 448 :: 0 :: 1984 :: 4032 :: 8160 :: 16383 :: 32767 :: []), (none :: none :: none :: none :: none :: none :: none :: none :: none :: none :: none :: none :: none :: some [] :: []), []⟩ 14 40 ((0, 24) :: (1, 25) :: (2, 26) :: (3, 27) :: (4, 28) :: (5, 29) :: (6, 30) :: (7, 31) :: (8, 32) :: (9, 33) :: (10, 34) :: (11, 35) :: (12, 36) :: (13, 37) :: []) ((0, 24) :: (1, 25) :: (2, 26) :: (3, 27) :: (4, 28) :: (5, 29) :: (6, 30) :: (7, 31) :: (8, 32) :: (9, 33) :: (10, 34) :: (11, 35) :: (12, 36) :: (13, 37) :: []) (.det _ :: .det _ :: .det _ :: .det _ :: .det _ :: .det _ :: .det _ :: .det _ :: .det _ :: .det _ :: .det _ :: .det _ :: .det _ :: SB.Good.of (fun v w => ∃ s' : St, v = .agg #[.slice s'.D s'.q s'.cd, .int .i64 s'.k] ∧ G s' ∧ StOK w s' ∧ (s'.d ≠ [] → ∀ a, s'.D = some a → a.block ≠ gc ∧ a.block ≠ gE ∧ a.block ≠ gE + 1)) (fun v w w' h hx => let ⟨s', e, hg, ho, hf⟩ := h; ⟨s', e, hg, ho.ext hx, hf⟩) :: []) (by kernel_rfl) ?hpan (by kernel_rfl) (by kernel_rfl) rfl (by kernel_rfl) (by kernel_rfl) rfl ?hone ?hend
 case hpan =>
  intro _ _ _ _ h; exact h.elim
 case hone =>
  intro CS frS VS hCS ha hV
  have qs1 := slot_val (t := 1) ha rfl
  simp only [List.getElem_toArray, List.getElem_cons_succ, List.getElem_cons_zero] at qs1
  have qs2 := slot_val (t := 2) ha rfl
  simp only [List.getElem_toArray, List.getElem_cons_succ, List.getElem_cons_zero] at qs2
  have qs3 := slot_val (t := 3) ha rfl
  simp only [List.getElem_toArray, List.getElem_cons_succ, List.getElem_cons_zero] at qs3
  have qs4 := slot_val (t := 4) ha rfl
  simp only [List.getElem_toArray, List.getElem_cons_succ, List.getElem_cons_zero] at qs4
  have HCS := Lib.hid hCS
  have HVS := Lib.hid hV
  clear ha hCS hV
  refine SB.sure_det (js := []) (ts := [1]) (gd := none) (bs := []) (SB.place_at HVS.out (k := 0) rfl) (by rw [HCS.out]; kernel_rfl) (by rw [HCS.out]; kernel_rfl) ?_ ?_
  ·intro wx hx ρ hρ hs hf; have hρc := hρ.const; have hρf := hρ.func
   obtain ⟨fx1, -⟩ := hf; rw [qs1] at fx1
   clear hs
   clear HCS HVS qs1 qs2 qs3 qs4
   refine SB.run_plain ?_
   refine SB.op_move rfl fx1 ?_
   exact SB.detK.mk
  refine SB.sure_det (js := []) (ts := [4]) (gd := none) (bs := []) (SB.place_at HVS.out (k := 1) rfl) (by rw [HCS.out]; kernel_rfl) (by rw [HCS.out]; kernel_rfl) ?_ ?_
  ·intro wx hx ρ hρ hs hf; have hρc := hρ.const; have hρf := hρ.func
   obtain ⟨fx4, -⟩ := hf; rw [qs4] at fx4
   clear hs
   clear HCS HVS qs1 qs2 qs3 qs4
   refine SB.run_plain ?_
   unfold SB.runs
   go_simp
   exact SB.detK.mk
  refine SB.sure_det (js := [(1, 25), (0, 24)]) (ts := []) (gd := none) (bs := []) (SB.place_at HVS.out (k := 2) rfl) (by rw [HCS.out]; kernel_rfl) (by rw [HCS.out]; kernel_rfl) ?_ ?_
  ·intro wx hx ρ hρ hs hf; have hρc := hρ.const; have hρf := hρ.func; obtain ⟨sn1, sn0, -⟩ := hs
   rw [SB.place_at HVS.out (k := 1) rfl] at sn1; replace sn1 : ρ (.tmp 25) = _ := sn1
   rw [SB.place_at HVS.out (k := 0) rfl] at sn0; replace sn0 : ρ (.tmp 24) = _ := sn0
   clear hf
   clear HCS HVS qs1 qs2 qs3 qs4
   refine SB.run_plain ?_
   unfold SB.runs
   go_simp
   exact SB.detK.mk
  refine SB.sure_det (js := [(2, 26)]) (ts := []) (gd := none) (bs := []) (SB.place_at HVS.out (k := 3) rfl) (by rw [HCS.out]; kernel_rfl) (by rw [HCS.out]; kernel_rfl) ?_ ?_
  ·intro wx hx ρ hρ hs hf; have hρc := hρ.const; have hρf := hρ.func; obtain ⟨sn2, -⟩ := hs
   rw [SB.place_at HVS.out (k := 2) rfl] at sn2; replace sn2 : ρ (.tmp 26) = _ := sn2
   clear hf
   clear HCS HVS qs1 qs2 qs3 qs4
   refine SB.run_plain ?_
   obtain ⟨p0, p1, p2, pE⟩ := hX wx hx.ext.drawn
   unfold SB.runs
   go_simp
   exact SB.detK.mk
  refine SB.sure_det (js := []) (ts := [2]) (gd := none) (bs := []) (SB.place_at HVS.out (k := 4) rfl) (by rw [HCS.out]; kernel_rfl) (by rw [HCS.out]; kernel_rfl) ?_ ?_
  ·intro wx hx ρ hρ hs hf; have hρc := hρ.const; have hρf := hρ.func
   obtain ⟨fx2, -⟩ := hf; rw [qs2] at fx2
   clear hs
   clear HCS HVS qs1 qs2 qs3 qs4
   refine SB.run_plain ?_
   refine SB.op_move rfl fx2 ?_
   exact SB.detK.mk
  refine SB.sure_det (js := []) (ts := [3]) (gd := none) (bs := []) (SB.place_at HVS.out (k := 5) rfl) (by rw [HCS.out]; kernel_rfl) (by rw [HCS.out]; kernel_rfl) ?_ ?_
  ·intro wx hx ρ hρ hs hf; have hρc := hρ.const; have hρf := hρ.func
   obtain ⟨fx3, -⟩ := hf; rw [qs3] at fx3
   clear hs
   clear HCS HVS qs1 qs2 qs3 qs4
   refine SB.run_plain ?_
   refine SB.op_move rfl fx3 ?_
   exact SB.detK.mk
  refine SB.sure_det (js := []) (ts := [1]) (gd := none) (bs := []) (SB.place_at HVS.out (k := 6) rfl) (by rw [HCS.out]; kernel_rfl) (by rw [HCS.out]; kernel_rfl) ?_ ?_
  ·intro wx hx ρ hρ hs hf; have hρc := hρ.const; have hρf := hρ.func
   obtain ⟨fx1, -⟩ := hf; rw [qs1] at fx1
   clear hs
   clear HCS HVS qs1 qs2 qs3 qs4
   refine SB.run_plain ?_
   refine SB.op_move rfl fx1 ?_
   exact SB.detK.mk
  refine SB.sure_det (js := []) (ts := [4]) (gd := none) (bs := []) (SB.place_at HVS.out (k := 7) rfl) (by rw [HCS.out]; kernel_rfl) (by rw [HCS.out]; kernel_rfl) ?_ ?_
  ·intro wx hx ρ hρ hs hf; have hρc := hρ.const; have hρf := hρ.func
   obtain ⟨fx4, -⟩ := hf; rw [qs4] at fx4
   clear hs
   clear HCS HVS qs1 qs2 qs3 qs4
   refine SB.run_plain ?_
   unfold SB.runs
   go_simp
   exact SB.detK.mk
  refine SB.sure_det (js := [(7, 31), (6, 30)]) (ts := []) (gd := none) (bs := []) (SB.place_at HVS.out (k := 8) rfl) (by rw [HCS.out]; kernel_rfl) (by rw [HCS.out]; kernel_rfl) ?_ ?_
  ·intro wx hx ρ hρ hs hf; have hρc := hρ.const; have hρf := hρ.func; obtain ⟨sn7, sn6, -⟩ := hs
   rw [SB.place_at HVS.out (k := 7) rfl] at sn7; replace sn7 : ρ (.tmp 31) = _ := sn7
   rw [SB.place_at HVS.out (k := 6) rfl] at sn6; replace sn6 : ρ (.tmp 30) = _ := sn6
   clear hf
   clear HCS HVS qs1 qs2 qs3 qs4
   refine SB.run_plain ?_
   unfold SB.runs
   go_simp
   exact SB.detK.mk
  refine SB.sure_det (js := [(8, 32)]) (ts := []) (gd := none) (bs := []) (SB.place_at HVS.out (k := 9) rfl) (by rw [HCS.out]; kernel_rfl) (by rw [HCS.out]; kernel_rfl) ?_ ?_
  ·intro wx hx ρ hρ hs hf; have hρc := hρ.const; have hρf := hρ.func; obtain ⟨sn8, -⟩ := hs
   rw [SB.place_at HVS.out (k := 8) rfl] at sn8; replace sn8 : ρ (.tmp 32) = _ := sn8
   clear hf
   clear HCS HVS qs1 qs2 qs3 qs4
   refine SB.run_plain ?_
   obtain ⟨p0, p1, p2, pE⟩ := hX wx hx.ext.drawn
   unfold SB.runs
   go_simp
   exact SB.detK.mk
  refine SB.sure_det (js := []) (ts := [2]) (gd := none) (bs := []) (SB.place_at HVS.out (k := 10) rfl) (by rw [HCS.out]; kernel_rfl) (by rw [HCS.out]; kernel_rfl) ?_ ?_
  ·intro wx hx ρ hρ hs hf; have hρc := hρ.const; have hρf := hρ.func
   obtain ⟨fx2, -⟩ := hf; rw [qs2] at fx2
   clear hs
   clear HCS HVS qs1 qs2 qs3 qs4
   refine SB.run_plain ?_
   refine SB.op_move rfl fx2 ?_
   exact SB.detK.mk
  refine SB.sure_det (js := [(9, 33), (10, 34)]) (ts := []) (gd := none) (bs := []) (SB.place_at HVS.out (k := 11) rfl) (by rw [HCS.out]; kernel_rfl) (by rw [HCS.out]; kernel_rfl) ?_ ?_
  ·intro wx hx ρ hρ hs hf; have hρc := hρ.const; have hρf := hρ.func; obtain ⟨sn9, sn10, -⟩ := hs
   rw [SB.place_at HVS.out (k := 9) rfl] at sn9; replace sn9 : ρ (.tmp 33) = _ := sn9
   rw [SB.place_at HVS.out (k := 10) rfl] at sn10; replace sn10 : ρ (.tmp 34) = _ := sn10
   clear hf
   clear HCS HVS qs1 qs2 qs3 qs4
   refine SB.run_plain ?_
   unfold SB.runs
   go_simp
   exact SB.detK.mk
  refine SB.sure_det (js := [(11, 35)]) (ts := []) (gd := none) (bs := []) (SB.place_at HVS.out (k := 12) rfl) (by rw [HCS.out]; kernel_rfl) (by rw [HCS.out]; kernel_rfl) ?_ ?_
  ·intro wx hx ρ hρ hs hf; have hρc := hρ.const; have hρf := hρ.func; obtain ⟨sn11, -⟩ := hs
   rw [SB.place_at HVS.out (k := 11) rfl] at sn11; replace sn11 : ρ (.tmp 35) = _ := sn11
   clear hf
   clear HCS HVS qs1 qs2 qs3 qs4
   refine SB.run_plain ?_
   obtain ⟨p0, p1, p2, pE⟩ := hX wx hx.ext.drawn
   unfold SB.runs
   go_simp
   exact SB.detK.mk
  refine SB.sure_op (js := [(5, 29), (12, 36)]) (ts := []) (gd := none) (bs := []) (SB.place_at HVS.out (k := 13) rfl) (by rw [HCS.out]; kernel_rfl) (by rw [HCS.out]; kernel_rfl) ?_ ?_
  ·intro wx hx ρ hρ hs hf; have hρc := hρ.const; have hρf := hρ.func; obtain ⟨sn5, sn12, -⟩ := hs
   rw [SB.place_at HVS.out (k := 5) rfl] at sn5; replace sn5 : ρ (.tmp 29) = _ := sn5
   rw [SB.place_at HVS.out (k := 12) rfl] at sn12; replace sn12 : ρ (.tmp 36) = _ := sn12
   clear hf
   clear HCS HVS qs1 qs2 qs3 qs4
   refine SB.run_plain ?_
   refine SB.op_callv rfl sn5 hcall (map_one sn12) ?_
   refine Calls.mono (hby wx (hX wx hx.ext.drawn).2.2.2) ?_
   rintro e w' ⟨s', rfl, hg, ho, hfar, hx5⟩
   have hsx := hx.ext.drawn.size
   exact .inl ⟨_, rfl, hx5, s', rfl, hg, ho, fun hd a ha => by rcases hfar hd a ha with h | h <;> omega⟩
  exact trivial
 case hend =>
  intro xs wx hx hg hq
  have gk0 : xs 0 = _ := SB.goods_get hg (i := 0) (j := 0) (d := 24) rfl
  have gk1 : xs 1 = _ := SB.goods_get hg (i := 1) (j := 1) (d := 25) rfl
  have gk2 : xs 2 = _ := SB.goods_get hg (i := 2) (j := 2) (d := 26) rfl
  have gk3 : xs 3 = _ := SB.goods_get hg (i := 3) (j := 3) (d := 27) rfl
  have gk4 : xs 4 = _ := SB.goods_get hg (i := 4) (j := 4) (d := 28) rfl
  have gk5 : xs 5 = _ := SB.goods_get hg (i := 5) (j := 5) (d := 29) rfl
  have gk6 : xs 6 = _ := SB.goods_get hg (i := 6) (j := 6) (d := 30) rfl
  have gk7 : xs 7 = _ := SB.goods_get hg (i := 7) (j := 7) (d := 31) rfl
  have gk8 : xs 8 = _ := SB.goods_get hg (i := 8) (j := 8) (d := 32) rfl
  have gk9 : xs 9 = _ := SB.goods_get hg (i := 9) (j := 9) (d := 33) rfl
  have gk10 : xs 10 = _ := SB.goods_get hg (i := 10) (j := 10) (d := 34) rfl
  have gk11 : xs 11 = _ := SB.goods_get hg (i := 11) (j := 11) (d := 35) rfl
  have gk12 : xs 12 = _ := SB.goods_get hg (i := 12) (j := 12) (d := 36) rfl
  have gk13 : ∃ s' : St, (xs 13) = .agg #[.slice s'.D s'.q s'.cd, .int .i64 s'.k] ∧ G s' ∧ StOK wx s' ∧ (s'.d ≠ [] → ∀ a, s'.D = some a → a.block ≠ gc ∧ a.block ≠ gE ∧ a.block ≠ gE + 1) := SB.goods_get hg (i := 13) (j := 13) (d := 37) rfl
  clear hg hq
  simp only [putAll, gk0, gk1, gk2, gk3, gk4, gk5, gk6, gk7, gk8, gk9, gk10, gk11, gk12]
  clear gk0 gk1 gk2 gk3 gk4 gk5 gk6 gk7 gk8 gk9 gk10 gk11 gk12
  generalize xs 13 = vx13 at gk13 ⊢
  clear xs
  simp only [Act.put, List.setIfInBounds_toArray, List.set_cons_zero, List.set_cons_succ, List.drop_succ_cons, List.drop_zero]
  obtain ⟨s', e', hg', hok', hfar⟩ := gk13
  subst e'
  subst hgE
  have hxx : Ext W3 wx := (SB.ExtS.ext hx).drawn
  have x0 := hxx.cell s0
  have x1 := hxx.cell s1
  have y0 : wx.frozen? ⟨gc, i * 2, none⟩ = false := by rw [hxx.frozen hgl3]; exact f0
  have y1 : wx.frozen? ⟨gc, i * 2 + 1, none⟩ = false := by rw [hxx.frozen hgl3]; exact f1
  have hE4 := heap_ext hE3 hxx
  have hO4 := heap_ext hO3 hxx
  have e0 : wx.cell? ⟨w.heap.size, 0, none⟩ = some (.int .u64 R) := by simp [World.cell?, hE4]
  have e1 : wx.cell? ⟨w.heap.size, 1, none⟩ = some (.slice A0 n0 c0) := by simp [World.cell?, hE4]
  have e2 : wx.cell? ⟨w.heap.size, 2, none⟩ = some (.slice (some ⟨gc, 0, none⟩) n1 cc) := by simp [World.cell?, hE4]
  have d0 : wx.cell? ⟨w.heap.size + 1, 0, none⟩ = some (.int .u64 0) := by simp [World.cell?, hO4]
  have df0 : wx.frozen? ⟨w.heap.size + 1, 0, none⟩ = false := by simp [World.frozen?, hO4]
  have d1 : wx.cell? ⟨w.heap.size + 1, 1, none⟩ = some (.slice none 0 0) := by simp [World.cell?, hO4]
  have df1 : wx.frozen? ⟨w.heap.size + 1, 1, none⟩ = false := by simp [World.frozen?, hO4]
  have d2 : wx.cell? ⟨w.heap.size + 1, 2, none⟩ = some (.slice none 0 0) := by simp [World.cell?, hO4]
  have df2 : wx.frozen? ⟨w.heap.size + 1, 2, none⟩ = false := by simp [World.frozen?, hO4]
  have hblk := hxx.block gc hgl3
  have hokx : ∀ x ∈ l, StOK wx x := fun x hx' => (hrow.ok x hx').ext (hW3.trans hxx)
  have hX4 := hW3.trans hxx
  clear hE3 hO3 hE4 hO4 hX hx hW3 hxx s0 s1 f0 f1 hown3
  go_wp2
  refine bodyPost_ret (v := .tuple #[.agg #[.int .u64 R, .slice A0 n0 c0, .slice (some ⟨gc, 0, none⟩) n1 cc], .int .i64 0]) (by simp [results, Try.results123, go_sem, d0, d1, d2]) rfl ?_
  have hlow : ∀ x ∈ l, x.d ≠ [] → ∀ a, x.D = some a → a.block ≠ gc ∧ a.block ≠ w.heap.size ∧ a.block ≠ w.heap.size + 1 := fun x hx hd a ha => by have := (hrow.ok x hx).low hd a ha; omega
  have hst : ∀ x, StOK wx x → (x.d ≠ [] → ∀ a, x.D = some a → a.block ≠ gc ∧ a.block ≠ w.heap.size ∧ a.block ≠ w.heap.size + 1) → StOK (setAll (w.heap.size + 1) 0 [.int .u64 R, .slice A0 n0 c0, .slice (some ⟨gc, 0, none⟩) n1 cc] ((wx.setCell ⟨gc, i * 2, none⟩ (.slice s'.D s'.q s'.cd)).setCell ⟨gc, i * 2 + 1, none⟩ (.int .i64 s'.k))) x := fun x h hf =>
   ((((h.set (fun hd a ha => (hf hd a ha).1) _).set (fun hd a ha => (hf hd a ha).1) _).set (fun hd a ha => (hf hd a ha).2.2) _).set (fun hd a ha => (hf hd a ha).2.2) _).set (fun hd a ha => (hf hd a ha).2.2) _
  have hnew := hset s' (setAll (w.heap.size + 1) 0 [.int .u64 R, .slice A0 n0 c0, .slice (some ⟨gc, 0, none⟩) n1 cc] ((wx.setCell ⟨gc, i * 2, none⟩ (.slice s'.D s'.q s'.cd)).setCell ⟨gc, i * 2 + 1, none⟩ (.int .i64 s'.k)))
   (fun x hx => by
    rcases List.mem_cons.1 hx with rfl | hx
    ·exact hst _ hok' hfar
    ·exact hst _ (hokx x hx) (hlow x hx))
   (by
    rw [setAll_other (by omega)]
    exact heap_set_congr (heap_set_congr hblk))
  obtain ⟨A', c', e', hr⟩ := hnew.form
  cases e'
  refine ⟨_, _, s', rfl, hr, hg', ?_⟩
  have hx5 : Ext w ((wx.setCell ⟨gc, i * 2, none⟩ (.slice s'.D s'.q s'.cd)).setCell ⟨gc, i * 2 + 1, none⟩ (.int .i64 s'.k)) := (hX4.setCell (show w.heap.size ≤ gc by omega) _).setCell (show w.heap.size ≤ gc by omega) _
  exact setAll_ext (g := w.heap.size + 1) (vs := [.int .u64 R, .slice A0 n0 c0, .slice (some ⟨gc, 0, none⟩) n1 cc]) (i := 0) hx5 (by omega)
end Go.Proofs.Ytkdjmfaodojmfaa

namespace Go.Proofs.Ytkdjmfaodojmfaa
open Go.RowKit

/-! What is done with disks. -/
theorem Cells.setAll {w : World} {A : Option Addr} {xs : List Value} (h : Cells w A xs) {g : Nat} (hp : xs ≠ [] → ∀ a, A = some a → a.block ≠ g) (i : Nat) (vs : List Value) : Cells (setAll g i vs w) A xs := fun hn =>
 let ⟨a, ha, hc⟩ := h hn
 ⟨a, ha, fun j v hv => by
  rw [World.cell?_of_block (setAll_other (by rw [add_block]; exact hp hn a ha) vs i w)]
  exact hc j v hv⟩
theorem three_boxes7 (w : World) (o0 o1 o2 : Obj) :
  Ext w (((w.alloc o0).alloc o1).alloc o2) ∧ (((w.alloc o0).alloc o1).alloc o2).heap.size = w.heap.size + 3 ∧
  (((w.alloc o0).alloc o1).alloc o2).heap[w.heap.size]? = some o0 ∧ (((w.alloc o0).alloc o1).alloc o2).heap[w.heap.size + 1]? = some o1 ∧ (((w.alloc o0).alloc o1).alloc o2).heap[w.heap.size + 1 + 1]? = some o2 := by
 refine ⟨((((Below.refl _ w).alloc (Nat.le_refl _) _).alloc (by simp) _).alloc (by simp; omega) _), by simp, ?_, ?_, ?_⟩
 ·rw [Below.heap_alloc _ _ _ (by first | (simp; omega) | simp), Below.heap_alloc _ _ _ (by first | (simp; omega) | simp)]
  simpa using heap_alloc_new w o0
 ·rw [Below.heap_alloc _ _ _ (by first | (simp; omega) | simp)]
  simpa using heap_alloc_new (w.alloc o0) o1
 ·simpa using heap_alloc_new ((w.alloc o0).alloc o1) o2
/-- what stands in a disk's box: numbers and slices -/
def diskish : Value → Bool
 | .slice _ _ _ => true
 | .int .u64 _ => true
 | _ => false
theorem apart_of {w : World} {A : Option Addr} {xs : List Value} (h : Cells w A xs) {g : Nat} {cs : Array Value} {T : TypeId} {fr : Nat × Nat} (hg : w.heap[g]? = some (.cells cs T fr)) (hd : ∀ v ∈ cs, diskish v = true) (hx : xs ≠ [] → ∃ v ∈ xs, diskish v = false) :
  xs ≠ [] → ∀ a, A = some a → a.block ≠ g := fun hn a ha hb => by
 obtain ⟨a', ha', hcell⟩ := h hn
 obtain rfl : a = a' := Option.some.inj (ha.symm.trans ha')
 obtain ⟨v, hv, hf⟩ := hx hn
 obtain ⟨j, hj⟩ := List.getElem?_of_mem hv
 have h1 := hcell j v hj
 unfold World.cell? at h1
 rw [add_block, hb, hg] at h1
 simp only at h1
 split at h1
 ·cases h1
 ·have := hd v (Array.mem_of_getElem? h1)
  rw [hf] at this; cases this
theorem StOK.box {w : World} {s : St} (h : StOK w s) {g : Nat} {cs : Array Value} {T : TypeId} {fr : Nat × Nat} (hg : w.heap[g]? = some (.cells cs T fr)) (hd : ∀ v ∈ cs, diskish v = true) (i : Nat) (vs : List Value) : StOK (setAll g i vs w) s :=
 ⟨h.len, h.le, h.cap, h.nil, h.cells.setAll (apart_of h.cells hg hd fun hn => by
  match hs : s.d, hn with
  | [], hn => exact absurd rfl hn
  | x :: d, hn => exact ⟨_, List.mem_cons_self .., rfl⟩) i vs⟩
theorem RowV.box {w : World} {A : Option Addr} {n c : Nat} {l : List St} (h : RowV w A n c l) {g : Nat} {cs : Array Value} {T : TypeId} {fr : Nat × Nat} (hg : w.heap[g]? = some (.cells cs T fr)) (hd : ∀ v ∈ cs, diskish v = true) (i : Nat) (vs : List Value) : RowV (setAll g i vs w) A n c l :=
 ⟨h.len, h.le, h.cap, h.nil, h.cells.setAll (apart_of h.cells hg hd fun hn => by
  match l, hn with
  | [], hn => exact absurd rfl hn
  | x :: l, hn => exact ⟨.int .i64 x.k, by simp [rowCells, St.cells], rfl⟩) i vs, fun s hs => (h.ok s hs).box hg hd i vs⟩
theorem diskish_three {a b c : Value} (v : Value) (hv : v ∈ #[a, b, c]) (ha : diskish a = true) (hb : diskish b = true) (hc : diskish c = true) : diskish v = true := by
 simp at hv
 rcases hv with rfl | rfl | rfl <;> assumption
theorem made_row (n : Nat) : madeCells (Value.agg #[.slice none 0 0, .int .i64 0]).cells (n * 2) = (rowCells (List.replicate n St.zero)).toArray := by
 refine Array.ext_getElem? fun i => ?_
 have hlen : (rowCells (List.replicate n St.zero)).length = n * 2 := by rw [rowCells_length, List.length_replicate]
 by_cases hi : i < n * 2
 ·have hj : (List.replicate n St.zero)[i / 2]? = some St.zero := by rw [List.getElem?_replicate]; simp; omega
  obtain ⟨h1, h2⟩ := rowCells_at hj
  have hz : (Value.agg #[.slice none 0 0, .int .i64 0]).cells = #[.slice none 0 0, .int .i64 0] := rfl
  rcases Nat.mod_two_eq_zero_or_one i with hm | hm
  ·rw [show i = i / 2 * 2 by omega]
   simp only [List.getElem?_toArray]
   rw [h1]
   simp [madeCells, hz, St.zero, show i / 2 * 2 < n * 2 by omega]
  ·rw [show i = i / 2 * 2 + 1 by omega]
   simp only [List.getElem?_toArray]
   rw [h2]
   simp [madeCells, hz, St.zero, show i / 2 * 2 + 1 < n * 2 by omega, Nat.add_mod]
 ·rw [Array.getElem?_eq_none (by rw [size_madeCells]; omega), List.getElem?_toArray, List.getElem?_eq_none (by omega)]
theorem zero_ok {w : World} {n : Nat} : ∀ s ∈ List.replicate n St.zero, StOK w s := fun s hs => by
 obtain ⟨_, rfl⟩ := List.mem_replicate.1 hs
 exact StOK.zero w
theorem RowV.made {w : World} {g n : Nat} {T : TypeId} {fr : Nat × Nat} {l : List St} (hg : w.heap[g]? = some (.cells (rowCells l).toArray T fr)) (hl : l.length = n) (hn : n ≤ 65536) (hok : ∀ s ∈ l, StOK w s) : RowV w (some ⟨g, 0, none⟩) n n l := by
 refine ⟨hl, Nat.le_refl _, by simp only [maxLen]; omega, (by intro h; cases h), fun _ => ⟨_, rfl, fun j u hu => ?_⟩, hok⟩
 have h2 : (⟨g, 0, none⟩ : Addr).add j = ⟨g, j, none⟩ := by unfold Addr.add; split <;> simp_all
 rw [h2]
 simp only [World.cell?, hg, Option.isSome_none, Bool.false_eq_true, if_false]
 simpa using hu
theorem run_mkrow (n : Nat) (hn : n ≤ 65536) (W : World) : (Instr.makeSlice 46 (.int .i64 (n : Int)) (.int .i64 (n : Int))).run Try.prog W = .ok (.slice (some ⟨W.heap.size, 0, none⟩) n n) (W.alloc (.cells (rowCells (List.replicate n St.zero)).toArray 118)) := by
 obtain ⟨i0, hi0, hz0, hz1, hz2⟩ := info_parts info_stream
 have := run_make (P := Try.prog) W 46 118 i0 _ Try.underlying46 hi0 hz0 .i64 .i64 (n : Int) (n : Int) (by omega) (Int.le_refl _) (by rw [hz2]; omega) (by omega)
 simp only [Int.toNat_natCast, hz1] at this
 rw [this, made_row]
set_option maxRecDepth 100000 in
set_option maxHeartbeats 1000000 in
/-- the closure of disk.Append -/
theorem appendc_any (g : Nat) (A B : Option Addr) (n c m c2 : Nat) (k : Int) (d b : List UInt8) (w : World) (hg : w.cell? ⟨g, 0, none⟩ = some (.slice B m c2)) (hA : BytesV w A n c d) (hB : BytesV w B m c2 b) (hs : n + m ≤ 65536) :
  Calls Try.prog 124 #[.agg #[.slice A n c, .int .i64 k], .pointer (some ⟨g, 0, none⟩)] w fun e w' =>
   ∃ A' c', e = .returned (.agg #[.slice A' (n + m) c', .int .i64 k]) ∧ BytesV w' A' (n + m) c' (d ++ b) ∧ (d ++ b ≠ [] → ∀ a, A' = some a → (A' = A ∧ d ≠ []) ∨ w.heap.size ≤ a.block) ∧ Ext w w' := by
 go_enter Try.func124, Try.ntmps124
 go_upto_region 1 with (fail)
 obtain ⟨hW, hE, hO⟩ := two_boxes7 w (.cells #[.slice A n c, .int .i64 k] 118) (.cells #[.slice none 0 0, .int .i64 0] 118)
 generalize (w.alloc (.cells #[.slice A n c, .int .i64 k] 118)).alloc (.cells #[.slice none 0 0, .int .i64 0] 118) = W at *
 have e0 : W.cell? ⟨w.heap.size, 0, none⟩ = some (.slice A n c) := by simp [World.cell?, hE]
 have e1 : W.cell? ⟨w.heap.size, 1, none⟩ = some (.int .i64 k) := by simp [World.cell?, hE]
 have hg' := hW.cell hg
 have hlt : w.heap.size + 1 < W.heap.size := (Array.getElem?_eq_some_iff.1 hO).1
 have hsz := hW.size
 go_wp2_with fail
 refine (append_new A B n c m c2 k d b _ (hA.ext hW) (hB.ext hW) hs).mono ?_
 rintro e w1 ⟨A', c', rfl, hV, hfar, hx1⟩
 replace hO := heap_ext hO hx1
 have hX := hW.trans hx1
 clear e0 e1 hg' hE
 have d0 : w1.cell? ⟨w.heap.size + 1, 0, none⟩ = some (.slice none 0 0) := by simp [World.cell?, hO]
 have df0 : w1.frozen? ⟨w.heap.size + 1, 0, none⟩ = false := by simp [World.frozen?, hO]
 have d1 : w1.cell? ⟨w.heap.size + 1, 1, none⟩ = some (.int .i64 0) := by simp [World.cell?, hO]
 have df1 : w1.frozen? ⟨w.heap.size + 1, 1, none⟩ = false := by simp [World.frozen?, hO]
 have hlow := (show StOK w ⟨A, n, c, k, d⟩ from hA).low
 have hblk : d ++ b ≠ [] → ∀ a, A' = some a → a.block ≠ w.heap.size + 1 := fun hne a ha => by
  rcases hfar hne a ha with ⟨rfl, hd⟩ | h
  ·have := hlow hd a ha; omega
  ·omega
 clear hO
 go_wp2
 refine bodyPost_ret (v := .agg #[.slice A' (n + m) c', .int .i64 k]) (by simp [results, Try.results124, go_sem, d0, d1]) rfl ⟨A', c', rfl, ?_, ?_, ?_⟩
 ·exact ((show StOK w1 ⟨A', n + m, c', k, d ++ b⟩ from hV).set (p := ⟨w.heap.size + 1, 0, none⟩) hblk _).set (p := ⟨w.heap.size + 1, 1, none⟩) hblk _
 ·intro hne a ha
  rcases hfar hne a ha with h | h
  ·exact .inl h
  ·exact .inr (by omega)
 ·exact (hX.setCell (by simp) _).setCell (by simp) _
set_option maxRecDepth 100000 in
set_option maxHeartbeats 1000000 in
theorem dappend_row0 (R : Int) (A0 A1 : Option Addr) (n0 c0 n1 c1 : Nat) (i : Nat) (l : List St) (s : St) (B : Option Addr) (m c2 : Nat) (b : List UInt8) (w : World) (hrow : RowV w A0 n0 c0 l) (hs : l[i]? = some s) (hn0 : n0 ≤ 65536) (hn1 : n1 ≤ 65536)
  (hB : BytesV w B m c2 b) (hm : s.q + m ≤ 65536) :
  Calls Try.prog 75 #[.agg #[.int .u64 R, .slice A0 n0 c0, .slice A1 n1 c1], .int .i64 0, .int .i64 i, .slice B m c2] w fun e w' =>
   ∃ (A' : Option Addr) (c' : Nat) (s' : St), e = .returned (.tuple #[.agg #[.int .u64 R, .slice A' n0 c', .slice A1 n1 c1], .int .i64 0]) ∧ RowV w' A' n0 c' (l.set i s') ∧ (s'.q = s.q + m ∧ s'.k = s.k ∧ s'.d = s.d ++ b) ∧ Ext w w' := by
 have hmf : ∀ (fn : Fn) (first cap : Array Value) (w : World), (Instr.makeFunc fn first cap).run Try.prog w = .ok (.func fn first cap) w := fun _ _ _ _ => rfl
 have hsok := hrow.ok s (List.mem_of_getElem? hs)
 go_enter Try.func75, Try.ntmps75
 go_upto_region 1 with (fail)
 obtain ⟨hW, -, hE, hG, hO⟩ := three_boxes7 w (.cells #[.int .u64 R, .slice A0 n0 c0, .slice A1 n1 c1] 49) (.cells #[.slice B m c2] 30) (.cells #[.int .u64 0, .slice none 0 0, .slice none 0 0] 49)
 generalize ((w.alloc (.cells #[.int .u64 R, .slice A0 n0 c0, .slice A1 n1 c1] 49)).alloc (.cells #[.slice B m c2] 30)).alloc (.cells #[.int .u64 0, .slice none 0 0, .slice none 0 0] 49) = W at *
 have e0 : W.cell? ⟨w.heap.size, 0, none⟩ = some (.int .u64 R) := by simp [World.cell?, hE]
 have e1 : W.cell? ⟨w.heap.size, 1, none⟩ = some (.slice A0 n0 c0) := by simp [World.cell?, hE]
 have e2 : W.cell? ⟨w.heap.size, 2, none⟩ = some (.slice A1 n1 c1) := by simp [World.cell?, hE]
 have hgc : W.cell? ⟨w.heap.size + 1, 0, none⟩ = some (.slice B m c2) := by simp [World.cell?, hG]
 have hby : ∀ W', Ext W W' → Calls Try.prog 124 (#[.agg #[.slice s.D s.q s.cd, .int .i64 s.k]] ++ #[.pointer (some ⟨w.heap.size + 1, 0, none⟩)]) W' fun e w' => ∃ s' : St, e = .returned (.agg #[.slice s'.D s'.q s'.cd, .int .i64 s'.k]) ∧
   (s'.q = s.q + m ∧ s'.k = s.k ∧ s'.d = s.d ++ b) ∧ StOK w' s' ∧ (s'.d ≠ [] → ∀ a, s'.D = some a → a.block < W.heap.size ∨ W'.heap.size ≤ a.block) ∧ Ext W' w' := fun W' hx =>
  (appendc_any (w.heap.size + 1) s.D B s.q s.cd m c2 s.k s.d b W' (hx.cell hgc) ((hsok.ext hW).ext hx) ((hB.ext hW).ext hx) hm).mono fun e w' ⟨A', c', he, hV, hfar, hx'⟩ =>
   ⟨⟨A', s.q + m, c', s.k, s.d ++ b⟩, he, ⟨rfl, rfl, rfl⟩, hV, fun hd a ha => by
    rcases hfar hd a ha with ⟨h1, h2⟩ | h
    ·exact .inl ((hsok.ext hW).low h2 a (h1 ▸ ha))
    ·exact .inr h, hx'⟩
 go_wp2_with fail
 refine (turn_row0 R A0 A1 n0 c0 n1 c1 i l s 124 #[.pointer (some ⟨w.heap.size + 1, 0, none⟩)] (fun s' => s'.q = s.q + m ∧ s'.k = s.k ∧ s'.d = s.d ++ b) W (hrow.ext hW) hs hn0 hn1 Try.call124 hby).mono ?_
 rintro e w1 ⟨A', c', s', rfl, hr, hg, hx1⟩
 replace hO := heap_ext hO hx1
 replace hW := hW.trans hx1
 clear hby e0 e1 e2 hgc hE hG
 have d0 : w1.cell? ⟨w.heap.size + 1 + 1, 0, none⟩ = some (.int .u64 0) := by simp [World.cell?, hO]
 have df0 : w1.frozen? ⟨w.heap.size + 1 + 1, 0, none⟩ = false := by simp [World.frozen?, hO]
 have d1 : w1.cell? ⟨w.heap.size + 1 + 1, 1, none⟩ = some (.slice none 0 0) := by simp [World.cell?, hO]
 have df1 : w1.frozen? ⟨w.heap.size + 1 + 1, 1, none⟩ = false := by simp [World.frozen?, hO]
 have d2 : w1.cell? ⟨w.heap.size + 1 + 1, 2, none⟩ = some (.slice none 0 0) := by simp [World.cell?, hO]
 have df2 : w1.frozen? ⟨w.heap.size + 1 + 1, 2, none⟩ = false := by simp [World.frozen?, hO]
 have hr2 := fun vs => hr.box hO (fun v hv => diskish_three v hv rfl rfl rfl) 0 vs
 clear hO hr
 go_wp2
 refine bodyPost_ret (v := .tuple #[.agg #[.int .u64 R, .slice A' n0 c', .slice A1 n1 c1], .int .i64 0]) (by simp [results, Try.results75, go_sem, d0, d1, d2]) rfl ⟨A', c', s', rfl, ?_, hg, ?_⟩
 ·exact hr2 [.int .u64 R, .slice A' n0 c', .slice A1 n1 c1]
 ·exact setAll_ext (g := w.heap.size + 1 + 1) (vs := [.int .u64 R, .slice A' n0 c', .slice A1 n1 c1]) (i := 0) hW (by omega)
set_option maxRecDepth 100000 in
set_option maxHeartbeats 1000000 in
theorem dappend_row1 (R : Int) (A0 A1 : Option Addr) (n0 c0 n1 c1 : Nat) (i : Nat) (l : List St) (s : St) (B : Option Addr) (m c2 : Nat) (b : List UInt8) (w : World) (hrow : RowV w A1 n1 c1 l) (hs : l[i]? = some s) (hn0 : n0 ≤ 65536) (hn1 : n1 ≤ 65536)
  (hB : BytesV w B m c2 b) (hm : s.q + m ≤ 65536) :
  Calls Try.prog 75 #[.agg #[.int .u64 R, .slice A0 n0 c0, .slice A1 n1 c1], .int .i64 1, .int .i64 i, .slice B m c2] w fun e w' =>
   ∃ (A' : Option Addr) (c' : Nat) (s' : St), e = .returned (.tuple #[.agg #[.int .u64 R, .slice A0 n0 c0, .slice A' n1 c'], .int .i64 0]) ∧ RowV w' A' n1 c' (l.set i s') ∧ (s'.q = s.q + m ∧ s'.k = s.k ∧ s'.d = s.d ++ b) ∧ Ext w w' := by
 have hmf : ∀ (fn : Fn) (first cap : Array Value) (w : World), (Instr.makeFunc fn first cap).run Try.prog w = .ok (.func fn first cap) w := fun _ _ _ _ => rfl
 have hsok := hrow.ok s (List.mem_of_getElem? hs)
 go_enter Try.func75, Try.ntmps75
 go_upto_region 1 with (fail)
 obtain ⟨hW, -, hE, hG, hO⟩ := three_boxes7 w (.cells #[.int .u64 R, .slice A0 n0 c0, .slice A1 n1 c1] 49) (.cells #[.slice B m c2] 30) (.cells #[.int .u64 0, .slice none 0 0, .slice none 0 0] 49)
 generalize ((w.alloc (.cells #[.int .u64 R, .slice A0 n0 c0, .slice A1 n1 c1] 49)).alloc (.cells #[.slice B m c2] 30)).alloc (.cells #[.int .u64 0, .slice none 0 0, .slice none 0 0] 49) = W at *
 have e0 : W.cell? ⟨w.heap.size, 0, none⟩ = some (.int .u64 R) := by simp [World.cell?, hE]
 have e1 : W.cell? ⟨w.heap.size, 1, none⟩ = some (.slice A0 n0 c0) := by simp [World.cell?, hE]
 have e2 : W.cell? ⟨w.heap.size, 2, none⟩ = some (.slice A1 n1 c1) := by simp [World.cell?, hE]
 have hgc : W.cell? ⟨w.heap.size + 1, 0, none⟩ = some (.slice B m c2) := by simp [World.cell?, hG]
 have hby : ∀ W', Ext W W' → Calls Try.prog 124 (#[.agg #[.slice s.D s.q s.cd, .int .i64 s.k]] ++ #[.pointer (some ⟨w.heap.size + 1, 0, none⟩)]) W' fun e w' => ∃ s' : St, e = .returned (.agg #[.slice s'.D s'.q s'.cd, .int .i64 s'.k]) ∧
   (s'.q = s.q + m ∧ s'.k = s.k ∧ s'.d = s.d ++ b) ∧ StOK w' s' ∧ (s'.d ≠ [] → ∀ a, s'.D = some a → a.block < W.heap.size ∨ W'.heap.size ≤ a.block) ∧ Ext W' w' := fun W' hx =>
  (appendc_any (w.heap.size + 1) s.D B s.q s.cd m c2 s.k s.d b W' (hx.cell hgc) ((hsok.ext hW).ext hx) ((hB.ext hW).ext hx) hm).mono fun e w' ⟨A', c', he, hV, hfar, hx'⟩ =>
   ⟨⟨A', s.q + m, c', s.k, s.d ++ b⟩, he, ⟨rfl, rfl, rfl⟩, hV, fun hd a ha => by
    rcases hfar hd a ha with ⟨h1, h2⟩ | h
    ·exact .inl ((hsok.ext hW).low h2 a (h1 ▸ ha))
    ·exact .inr h, hx'⟩
 go_wp2_with fail
 refine (turn_row1 R A0 A1 n0 c0 n1 c1 i l s 124 #[.pointer (some ⟨w.heap.size + 1, 0, none⟩)] (fun s' => s'.q = s.q + m ∧ s'.k = s.k ∧ s'.d = s.d ++ b) W (hrow.ext hW) hs hn0 hn1 Try.call124 hby).mono ?_
 rintro e w1 ⟨A', c', s', rfl, hr, hg, hx1⟩
 replace hO := heap_ext hO hx1
 replace hW := hW.trans hx1
 clear hby e0 e1 e2 hgc hE hG
 have d0 : w1.cell? ⟨w.heap.size + 1 + 1, 0, none⟩ = some (.int .u64 0) := by simp [World.cell?, hO]
 have df0 : w1.frozen? ⟨w.heap.size + 1 + 1, 0, none⟩ = false := by simp [World.frozen?, hO]
 have d1 : w1.cell? ⟨w.heap.size + 1 + 1, 1, none⟩ = some (.slice none 0 0) := by simp [World.cell?, hO]
 have df1 : w1.frozen? ⟨w.heap.size + 1 + 1, 1, none⟩ = false := by simp [World.frozen?, hO]
 have d2 : w1.cell? ⟨w.heap.size + 1 + 1, 2, none⟩ = some (.slice none 0 0) := by simp [World.cell?, hO]
 have df2 : w1.frozen? ⟨w.heap.size + 1 + 1, 2, none⟩ = false := by simp [World.frozen?, hO]
 have hr2 := fun vs => hr.box hO (fun v hv => diskish_three v hv rfl rfl rfl) 0 vs
 clear hO hr
 go_wp2
 refine bodyPost_ret (v := .tuple #[.agg #[.int .u64 R, .slice A0 n0 c0, .slice A' n1 c'], .int .i64 0]) (by simp [results, Try.results75, go_sem, d0, d1, d2]) rfl ⟨A', c', s', rfl, ?_, hg, ?_⟩
 ·exact hr2 [.int .u64 R, .slice A0 n0 c0, .slice A' n1 c']
 ·exact setAll_ext (g := w.heap.size + 1 + 1) (vs := [.int .u64 R, .slice A0 n0 c0, .slice A' n1 c']) (i := 0) hW (by omega)
set_option maxRecDepth 100000 in
set_option maxHeartbeats 1000000 in
theorem dsync_row0 (R : Int) (A0 A1 : Option Addr) (n0 c0 n1 c1 : Nat) (i : Nat) (l : List St) (s : St) (w : World) (hrow : RowV w A0 n0 c0 l) (hs : l[i]? = some s) (hn0 : n0 ≤ 65536) (hn1 : n1 ≤ 65536) (hq : s.q ≤ 9223372036854775807) :
  Calls Try.prog 77 #[.agg #[.int .u64 R, .slice A0 n0 c0, .slice A1 n1 c1], .int .i64 0, .int .i64 i] w fun e w' =>
   ∃ (A' : Option Addr) (c' : Nat) (s' : St), e = .returned (.tuple #[.agg #[.int .u64 R, .slice A' n0 c', .slice A1 n1 c1], .int .i64 0]) ∧ RowV w' A' n0 c' (l.set i s') ∧ (s'.q = s.q ∧ s'.k = (s.q : Int) ∧ s'.d = s.d) ∧ Ext w w' := by
 have hsok := hrow.ok s (List.mem_of_getElem? hs)
 go_enter Try.func77, Try.ntmps77
 go_upto_region 1 with (fail)
 obtain ⟨hW, hE, hO⟩ := two_boxes7 w (.cells #[.int .u64 R, .slice A0 n0 c0, .slice A1 n1 c1] 49) (.cells #[.int .u64 0, .slice none 0 0, .slice none 0 0] 49)
 generalize (w.alloc (.cells #[.int .u64 R, .slice A0 n0 c0, .slice A1 n1 c1] 49)).alloc (.cells #[.int .u64 0, .slice none 0 0, .slice none 0 0] 49) = W at *
 have e0 : W.cell? ⟨w.heap.size, 0, none⟩ = some (.int .u64 R) := by simp [World.cell?, hE]
 have e1 : W.cell? ⟨w.heap.size, 1, none⟩ = some (.slice A0 n0 c0) := by simp [World.cell?, hE]
 have e2 : W.cell? ⟨w.heap.size, 2, none⟩ = some (.slice A1 n1 c1) := by simp [World.cell?, hE]
 have hby : ∀ W', Ext W W' → Calls Try.prog 92 (#[.agg #[.slice s.D s.q s.cd, .int .i64 s.k]] ++ #[]) W' fun e w' => ∃ s' : St, e = .returned (.agg #[.slice s'.D s'.q s'.cd, .int .i64 s'.k]) ∧
   (s'.q = s.q ∧ s'.k = (s.q : Int) ∧ s'.d = s.d) ∧ StOK w' s' ∧ (s'.d ≠ [] → ∀ a, s'.D = some a → a.block < W.heap.size ∨ W'.heap.size ≤ a.block) ∧ Ext W' w' := fun W' hx =>
  (sync_any s.D s.q s.cd s.k hq W').mono fun e w' ⟨he, hx'⟩ =>
   ⟨⟨s.D, s.q, s.cd, s.q, s.d⟩, he, ⟨rfl, rfl, rfl⟩, ((hsok.ext hW).ext hx).ext hx', fun hd a ha => .inl ((hsok.ext hW).low hd a ha), hx'⟩
 go_wp2_with fail
 refine (turn_row0 R A0 A1 n0 c0 n1 c1 i l s 92 #[] (fun s' => s'.q = s.q ∧ s'.k = (s.q : Int) ∧ s'.d = s.d) W (hrow.ext hW) hs hn0 hn1 Try.call92 hby).mono ?_
 rintro e w1 ⟨A', c', s', rfl, hr, hg, hx1⟩
 replace hO := heap_ext hO hx1
 replace hW := hW.trans hx1
 clear hby e0 e1 e2 hE
 have d0 : w1.cell? ⟨w.heap.size + 1, 0, none⟩ = some (.int .u64 0) := by simp [World.cell?, hO]
 have df0 : w1.frozen? ⟨w.heap.size + 1, 0, none⟩ = false := by simp [World.frozen?, hO]
 have d1 : w1.cell? ⟨w.heap.size + 1, 1, none⟩ = some (.slice none 0 0) := by simp [World.cell?, hO]
 have df1 : w1.frozen? ⟨w.heap.size + 1, 1, none⟩ = false := by simp [World.frozen?, hO]
 have d2 : w1.cell? ⟨w.heap.size + 1, 2, none⟩ = some (.slice none 0 0) := by simp [World.cell?, hO]
 have df2 : w1.frozen? ⟨w.heap.size + 1, 2, none⟩ = false := by simp [World.frozen?, hO]
 have hr2 := fun vs => hr.box hO (fun v hv => diskish_three v hv rfl rfl rfl) 0 vs
 clear hO hr
 go_wp2
 refine bodyPost_ret (v := .tuple #[.agg #[.int .u64 R, .slice A' n0 c', .slice A1 n1 c1], .int .i64 0]) (by simp [results, Try.results77, go_sem, d0, d1, d2]) rfl ⟨A', c', s', rfl, ?_, hg, ?_⟩
 ·exact hr2 [.int .u64 R, .slice A' n0 c', .slice A1 n1 c1]
 ·exact setAll_ext (g := w.heap.size + 1) (vs := [.int .u64 R, .slice A' n0 c', .slice A1 n1 c1]) (i := 0) hW (by omega)
set_option maxRecDepth 100000 in
set_option maxHeartbeats 1000000 in
theorem dread_row0 (R : Int) (A0 A1 : Option Addr) (n0 c0 n1 c1 : Nat) (i : Nat) (l : List St) (s : St) (w : World) (hrow : RowV w A0 n0 c0 l) (hs : l[i]? = some s) (hn0 : n0 ≤ 65536) (hn1 : n1 ≤ 65536) (hq : s.q ≤ 65536) :
  Calls Try.prog 79 #[.agg #[.int .u64 R, .slice A0 n0 c0, .slice A1 n1 c1], .int .i64 0, .int .i64 i] w fun e w' =>
   ∃ (A' : Option Addr) (c' : Nat), e = .returned (.tuple #[.slice A' s.q c', .int .i64 0]) ∧ BytesV w' A' s.q c' s.d ∧ Ext w w' := by
 have hil : i < l.length := (List.getElem?_eq_some_iff.1 hs).1
 have hlen := hrow.len
 have hin : i < n0 := by omega
 have hini : (i : Int) < (n0 : Int) := by omega
 obtain ⟨a, rfl, ha0, -, hsok⟩ := hrow.at hs
 have hW : Ext w (w.alloc (.cells #[.int .u64 R, .slice (some a) n0 c0, .slice A1 n1 c1] 49)) := (Below.refl _ w).alloc (Nat.le_refl _) _
 have hE : (w.alloc (.cells #[.int .u64 R, .slice (some a) n0 c0, .slice A1 n1 c1] 49)).heap[w.heap.size]? = some (.cells #[.int .u64 R, .slice (some a) n0 c0, .slice A1 n1 c1] 49 (0, 0)) := heap_alloc_new w _
 go_enter Try.func79, Try.ntmps79
 go_upto_region 1 with (fail)
 generalize w.alloc (.cells #[.int .u64 R, .slice (some a) n0 c0, .slice A1 n1 c1] 49) = W at *
 have e0 : W.cell? ⟨w.heap.size, 0, none⟩ = some (.int .u64 R) := by simp [World.cell?, hE]
 have e1 : W.cell? ⟨w.heap.size, 1, none⟩ = some (.slice (some a) n0 c0) := by simp [World.cell?, hE]
 have e2 : W.cell? ⟨w.heap.size, 2, none⟩ = some (.slice A1 n1 c1) := by simp [World.cell?, hE]
 go_wp2_with fail
 refine (is_any7 R _ _ n0 c0 n1 c1 0 i _).mono ?_
 rw [isB_row0 hin]
 rintro e w1 ⟨rfl, hx1⟩
 replace hE := heap_ext hE hx1
 replace hW := hW.trans hx1
 clear e0 e1 e2 hx1
 have e0 : w1.cell? ⟨w.heap.size, 0, none⟩ = some (.int .u64 R) := by simp [World.cell?, hE]
 have e1 : w1.cell? ⟨w.heap.size, 1, none⟩ = some (.slice (some a) n0 c0) := by simp [World.cell?, hE]
 have e2 : w1.cell? ⟨w.heap.size, 2, none⟩ = some (.slice A1 n1 c1) := by simp [World.cell?, hE]
 replace ha0 := hW.cell ha0
 go_wp2_with fail
 refine (clone_bytes s.D s.q s.cd s.d _ (hsok.ext hW) hq).mono ?_
 rintro e w2 ⟨A', c', rfl, hV, hx2⟩
 go_wp2
 refine bodyPost_ret (v := .tuple #[.slice A' s.q c', .int .i64 0]) (by simp [results, Try.results79, go_sem]) rfl ⟨A', c', rfl, hV, hW.trans hx2⟩
set_option maxRecDepth 100000 in
set_option maxHeartbeats 1000000 in
theorem dclear_row0 (R : Int) (A0 A1 : Option Addr) (n0 c0 n1 c1 : Nat) (w : World) (hpos : 0 < n0) (hn0 : n0 ≤ 65536) (hn1 : n1 ≤ 65536) :
  Calls Try.prog 81 #[.agg #[.int .u64 R, .slice A0 n0 c0, .slice A1 n1 c1], .int .i64 0] w fun e w' =>
   ∃ (A' : Option Addr) (c' : Nat), e = .returned (.tuple #[.agg #[.int .u64 R, .slice A' n0 c', .slice A1 n1 c1], .int .i64 0]) ∧ RowV w' A' n0 c' (List.replicate n0 St.zero) ∧ Ext w w' := by
 have hmk := run_mkrow n0 (by omega)
 go_enter Try.func81, Try.ntmps81
 go_upto_region 1 with (fail)
 obtain ⟨hW, hE, hO⟩ := two_boxes7 w (.cells #[.int .u64 R, .slice A0 n0 c0, .slice A1 n1 c1] 49) (.cells #[.int .u64 0, .slice none 0 0, .slice none 0 0] 49)
 generalize (w.alloc (.cells #[.int .u64 R, .slice A0 n0 c0, .slice A1 n1 c1] 49)).alloc (.cells #[.int .u64 0, .slice none 0 0, .slice none 0 0] 49) = W at *
 have e0 : W.cell? ⟨w.heap.size, 0, none⟩ = some (.int .u64 R) := by simp [World.cell?, hE]
 have e1 : W.cell? ⟨w.heap.size, 1, none⟩ = some (.slice A0 n0 c0) := by simp [World.cell?, hE]
 have e2 : W.cell? ⟨w.heap.size, 2, none⟩ = some (.slice A1 n1 c1) := by simp [World.cell?, hE]
 go_wp2_with fail
 refine (is_any7 R A0 A1 n0 c0 n1 c1 0 0 _).mono ?_
 rw [show isB 0 0 n0 n1 = true from isB_row0 (i := 0) hpos]
 rintro e w1 ⟨rfl, hx1⟩
 replace hE := heap_ext hE hx1
 replace hO := heap_ext hO hx1
 replace hW := hW.trans hx1
 clear e0 e1 e2 hx1
 have hlt : w.heap.size + 1 < w1.heap.size := (Array.getElem?_eq_some_iff.1 hO).1
 have e0 : w1.cell? ⟨w.heap.size, 0, none⟩ = some (.int .u64 R) := by simp [World.cell?, hE]
 have ef0 : w1.frozen? ⟨w.heap.size, 0, none⟩ = false := by simp [World.frozen?, hE]
 have e1 : w1.cell? ⟨w.heap.size, 1, none⟩ = some (.slice A0 n0 c0) := by simp [World.cell?, hE]
 have ef1 : w1.frozen? ⟨w.heap.size, 1, none⟩ = false := by simp [World.frozen?, hE]
 have e2 : w1.cell? ⟨w.heap.size, 2, none⟩ = some (.slice A1 n1 c1) := by simp [World.cell?, hE]
 have ef2 : w1.frozen? ⟨w.heap.size, 2, none⟩ = false := by simp [World.frozen?, hE]
 have hne1 : ¬ w.heap.size = w1.heap.size := by omega
 have hlt1 : w.heap.size < w1.heap.size := by omega
 go_upto_region 4 with (fail)
 clear hne1 hlt1
 generalize hC : (rowCells (List.replicate n0 St.zero)).toArray = C at *
 clear e0 e1 e2 ef0 ef1 ef2 hmk
 have hsU' : ∀ p u, (w1.setCell p u).heap.size = w1.heap.size := fun p u => by simp [World.setCell]
 generalize w1.heap.size = gz at *
 have hE2 : (w1.setCell ⟨w.heap.size, 1, none⟩ (.slice (some ⟨gz, 0, none⟩) n0 n0)).heap[w.heap.size]? = some (.cells #[.int .u64 R, .slice (some ⟨gz, 0, none⟩) n0 n0, .slice A1 n1 c1] 49 (0, 0)) := heap_setCell_at hE
 have hO2 : (w1.setCell ⟨w.heap.size, 1, none⟩ (.slice (some ⟨gz, 0, none⟩) n0 n0)).heap[w.heap.size + 1]? = _ := (Below.heap_setCell _ _ _ _ (by simp)).trans hO
 have hsU : (w1.setCell ⟨w.heap.size, 1, none⟩ (.slice (some ⟨gz, 0, none⟩) n0 n0)).heap.size = gz := hsU' _ _
 have hW2 : Ext w (w1.setCell ⟨w.heap.size, 1, none⟩ (.slice (some ⟨gz, 0, none⟩) n0 n0)) := hW.setCell (Nat.le_refl _) _
 generalize w1.setCell ⟨w.heap.size, 1, none⟩ (.slice (some ⟨gz, 0, none⟩) n0 n0) = U at *
 have hx3 : Ext U (U.alloc (.cells C 118)) := (Below.refl _ U).alloc (Nat.le_refl _) _
 have hZ3 : (U.alloc (.cells C 118)).heap[gz]? = some (.cells C 118 (0, 0)) := by rw [← hsU]; exact heap_alloc_new U _
 have hE3 := heap_ext hE2 hx3
 have hO3 := heap_ext hO2 hx3
 have hW3 := hW2.trans hx3
 clear hx3
 generalize U.alloc (.cells C 118) = W3 at *
 have e0 : W3.cell? ⟨w.heap.size, 0, none⟩ = some (.int .u64 R) := by simp [World.cell?, hE3]
 have e1 : W3.cell? ⟨w.heap.size, 1, none⟩ = some (.slice (some ⟨gz, 0, none⟩) n0 n0) := by simp [World.cell?, hE3]
 have e2 : W3.cell? ⟨w.heap.size, 2, none⟩ = some (.slice A1 n1 c1) := by simp [World.cell?, hE3]
 have d0 : W3.cell? ⟨w.heap.size + 1, 0, none⟩ = some (.int .u64 0) := by simp [World.cell?, hO3]
 have df0 : W3.frozen? ⟨w.heap.size + 1, 0, none⟩ = false := by simp [World.frozen?, hO3]
 have d1 : W3.cell? ⟨w.heap.size + 1, 1, none⟩ = some (.slice none 0 0) := by simp [World.cell?, hO3]
 have df1 : W3.frozen? ⟨w.heap.size + 1, 1, none⟩ = false := by simp [World.frozen?, hO3]
 have d2 : W3.cell? ⟨w.heap.size + 1, 2, none⟩ = some (.slice none 0 0) := by simp [World.cell?, hO3]
 have df2 : W3.frozen? ⟨w.heap.size + 1, 2, none⟩ = false := by simp [World.frozen?, hO3]
 clear hE3 hO3 hE hO hE2 hO2
 go_wp2
 refine bodyPost_ret (v := .tuple #[.agg #[.int .u64 R, .slice (some ⟨gz, 0, none⟩) n0 n0, .slice A1 n1 c1], .int .i64 0]) (by simp [results, Try.results81, go_sem, d0, d1, d2]) rfl ⟨_, _, rfl, RowV.made (fr := (0, 0)) (T := 118) ?_ (by simp) (by omega) zero_ok, ?_⟩
 ·rw [hC]
  exact (setAll_other (g := w.heap.size + 1) (k := gz) (by omega) [.int .u64 R, .slice (some ⟨gz, 0, none⟩) n0 n0, .slice A1 n1 c1] 0 W3).trans hZ3
 ·exact setAll_ext (g := w.heap.size + 1) (vs := [.int .u64 R, .slice (some ⟨gz, 0, none⟩) n0 n0, .slice A1 n1 c1]) (i := 0) hW3 (by omega)
set_option maxRecDepth 100000 in
set_option maxHeartbeats 1000000 in
theorem dsync_row1 (R : Int) (A0 A1 : Option Addr) (n0 c0 n1 c1 : Nat) (i : Nat) (l : List St) (s : St) (w : World) (hrow : RowV w A1 n1 c1 l) (hs : l[i]? = some s) (hn0 : n0 ≤ 65536) (hn1 : n1 ≤ 65536) (hq : s.q ≤ 9223372036854775807) :
  Calls Try.prog 77 #[.agg #[.int .u64 R, .slice A0 n0 c0, .slice A1 n1 c1], .int .i64 1, .int .i64 i] w fun e w' =>
   ∃ (A' : Option Addr) (c' : Nat) (s' : St), e = .returned (.tuple #[.agg #[.int .u64 R, .slice A0 n0 c0, .slice A' n1 c'], .int .i64 0]) ∧ RowV w' A' n1 c' (l.set i s') ∧ (s'.q = s.q ∧ s'.k = (s.q : Int) ∧ s'.d = s.d) ∧ Ext w w' := by
 have hsok := hrow.ok s (List.mem_of_getElem? hs)
 go_enter Try.func77, Try.ntmps77
 go_upto_region 1 with (fail)
 obtain ⟨hW, hE, hO⟩ := two_boxes7 w (.cells #[.int .u64 R, .slice A0 n0 c0, .slice A1 n1 c1] 49) (.cells #[.int .u64 0, .slice none 0 0, .slice none 0 0] 49)
 generalize (w.alloc (.cells #[.int .u64 R, .slice A0 n0 c0, .slice A1 n1 c1] 49)).alloc (.cells #[.int .u64 0, .slice none 0 0, .slice none 0 0] 49) = W at *
 have e0 : W.cell? ⟨w.heap.size, 0, none⟩ = some (.int .u64 R) := by simp [World.cell?, hE]
 have e1 : W.cell? ⟨w.heap.size, 1, none⟩ = some (.slice A0 n0 c0) := by simp [World.cell?, hE]
 have e2 : W.cell? ⟨w.heap.size, 2, none⟩ = some (.slice A1 n1 c1) := by simp [World.cell?, hE]
 have hby : ∀ W', Ext W W' → Calls Try.prog 92 (#[.agg #[.slice s.D s.q s.cd, .int .i64 s.k]] ++ #[]) W' fun e w' => ∃ s' : St, e = .returned (.agg #[.slice s'.D s'.q s'.cd, .int .i64 s'.k]) ∧
   (s'.q = s.q ∧ s'.k = (s.q : Int) ∧ s'.d = s.d) ∧ StOK w' s' ∧ (s'.d ≠ [] → ∀ a, s'.D = some a → a.block < W.heap.size ∨ W'.heap.size ≤ a.block) ∧ Ext W' w' := fun W' hx =>
  (sync_any s.D s.q s.cd s.k hq W').mono fun e w' ⟨he, hx'⟩ =>
   ⟨⟨s.D, s.q, s.cd, s.q, s.d⟩, he, ⟨rfl, rfl, rfl⟩, ((hsok.ext hW).ext hx).ext hx', fun hd a ha => .inl ((hsok.ext hW).low hd a ha), hx'⟩
 go_wp2_with fail
 refine (turn_row1 R A0 A1 n0 c0 n1 c1 i l s 92 #[] (fun s' => s'.q = s.q ∧ s'.k = (s.q : Int) ∧ s'.d = s.d) W (hrow.ext hW) hs hn0 hn1 Try.call92 hby).mono ?_
 rintro e w1 ⟨A', c', s', rfl, hr, hg, hx1⟩
 replace hO := heap_ext hO hx1
 replace hW := hW.trans hx1
 clear hby e0 e1 e2 hE
 have d0 : w1.cell? ⟨w.heap.size + 1, 0, none⟩ = some (.int .u64 0) := by simp [World.cell?, hO]
 have df0 : w1.frozen? ⟨w.heap.size + 1, 0, none⟩ = false := by simp [World.frozen?, hO]
 have d1 : w1.cell? ⟨w.heap.size + 1, 1, none⟩ = some (.slice none 0 0) := by simp [World.cell?, hO]
 have df1 : w1.frozen? ⟨w.heap.size + 1, 1, none⟩ = false := by simp [World.frozen?, hO]
 have d2 : w1.cell? ⟨w.heap.size + 1, 2, none⟩ = some (.slice none 0 0) := by simp [World.cell?, hO]
 have df2 : w1.frozen? ⟨w.heap.size + 1, 2, none⟩ = false := by simp [World.frozen?, hO]
 have hr2 := fun vs => hr.box hO (fun v hv => diskish_three v hv rfl rfl rfl) 0 vs
 clear hO hr
 go_wp2
 refine bodyPost_ret (v := .tuple #[.agg #[.int .u64 R, .slice A0 n0 c0, .slice A' n1 c'], .int .i64 0]) (by simp [results, Try.results77, go_sem, d0, d1, d2]) rfl ⟨A', c', s', rfl, ?_, hg, ?_⟩
 ·exact hr2 [.int .u64 R, .slice A0 n0 c0, .slice A' n1 c']
 ·exact setAll_ext (g := w.heap.size + 1) (vs := [.int .u64 R, .slice A0 n0 c0, .slice A' n1 c']) (i := 0) hW (by omega)
set_option maxRecDepth 100000 in
set_option maxHeartbeats 1000000 in
theorem dread_row1 (R : Int) (A0 A1 : Option Addr) (n0 c0 n1 c1 : Nat) (i : Nat) (l : List St) (s : St) (w : World) (hrow : RowV w A1 n1 c1 l) (hs : l[i]? = some s) (hn0 : n0 ≤ 65536) (hn1 : n1 ≤ 65536) (hq : s.q ≤ 65536) :
  Calls Try.prog 79 #[.agg #[.int .u64 R, .slice A0 n0 c0, .slice A1 n1 c1], .int .i64 1, .int .i64 i] w fun e w' =>
   ∃ (A' : Option Addr) (c' : Nat), e = .returned (.tuple #[.slice A' s.q c', .int .i64 0]) ∧ BytesV w' A' s.q c' s.d ∧ Ext w w' := by
 have hil : i < l.length := (List.getElem?_eq_some_iff.1 hs).1
 have hlen := hrow.len
 have hin : i < n1 := by omega
 have hini : (i : Int) < (n1 : Int) := by omega
 obtain ⟨a, rfl, ha0, -, hsok⟩ := hrow.at hs
 have hW : Ext w (w.alloc (.cells #[.int .u64 R, .slice A0 n0 c0, .slice (some a) n1 c1] 49)) := (Below.refl _ w).alloc (Nat.le_refl _) _
 have hE : (w.alloc (.cells #[.int .u64 R, .slice A0 n0 c0, .slice (some a) n1 c1] 49)).heap[w.heap.size]? = some (.cells #[.int .u64 R, .slice A0 n0 c0, .slice (some a) n1 c1] 49 (0, 0)) := heap_alloc_new w _
 go_enter Try.func79, Try.ntmps79
 go_upto_region 1 with (fail)
 generalize w.alloc (.cells #[.int .u64 R, .slice A0 n0 c0, .slice (some a) n1 c1] 49) = W at *
 have e0 : W.cell? ⟨w.heap.size, 0, none⟩ = some (.int .u64 R) := by simp [World.cell?, hE]
 have e1 : W.cell? ⟨w.heap.size, 1, none⟩ = some (.slice A0 n0 c0) := by simp [World.cell?, hE]
 have e2 : W.cell? ⟨w.heap.size, 2, none⟩ = some (.slice (some a) n1 c1) := by simp [World.cell?, hE]
 go_wp2_with fail
 refine (is_any7 R _ _ n0 c0 n1 c1 1 i _).mono ?_
 rw [isB_row1 hin]
 rintro e w1 ⟨rfl, hx1⟩
 replace hE := heap_ext hE hx1
 replace hW := hW.trans hx1
 clear e0 e1 e2 hx1
 have e0 : w1.cell? ⟨w.heap.size, 0, none⟩ = some (.int .u64 R) := by simp [World.cell?, hE]
 have e1 : w1.cell? ⟨w.heap.size, 1, none⟩ = some (.slice A0 n0 c0) := by simp [World.cell?, hE]
 have e2 : w1.cell? ⟨w.heap.size, 2, none⟩ = some (.slice (some a) n1 c1) := by simp [World.cell?, hE]
 replace ha0 := hW.cell ha0
 go_wp2_with fail
 refine (clone_bytes s.D s.q s.cd s.d _ (hsok.ext hW) hq).mono ?_
 rintro e w2 ⟨A', c', rfl, hV, hx2⟩
 go_wp2
 refine bodyPost_ret (v := .tuple #[.slice A' s.q c', .int .i64 0]) (by simp [results, Try.results79, go_sem]) rfl ⟨A', c', rfl, hV, hW.trans hx2⟩
set_option maxRecDepth 100000 in
set_option maxHeartbeats 1000000 in
theorem dclear_row1 (R : Int) (A0 A1 : Option Addr) (n0 c0 n1 c1 : Nat) (w : World) (hpos : 0 < n1) (hn0 : n0 ≤ 65536) (hn1 : n1 ≤ 65536) :
  Calls Try.prog 81 #[.agg #[.int .u64 R, .slice A0 n0 c0, .slice A1 n1 c1], .int .i64 1] w fun e w' =>
   ∃ (A' : Option Addr) (c' : Nat), e = .returned (.tuple #[.agg #[.int .u64 R, .slice A0 n0 c0, .slice A' n1 c'], .int .i64 0]) ∧ RowV w' A' n1 c' (List.replicate n1 St.zero) ∧ Ext w w' := by
 have hmk := run_mkrow n1 (by omega)
 go_enter Try.func81, Try.ntmps81
 go_upto_region 1 with (fail)
 obtain ⟨hW, hE, hO⟩ := two_boxes7 w (.cells #[.int .u64 R, .slice A0 n0 c0, .slice A1 n1 c1] 49) (.cells #[.int .u64 0, .slice none 0 0, .slice none 0 0] 49)
 generalize (w.alloc (.cells #[.int .u64 R, .slice A0 n0 c0, .slice A1 n1 c1] 49)).alloc (.cells #[.int .u64 0, .slice none 0 0, .slice none 0 0] 49) = W at *
 have e0 : W.cell? ⟨w.heap.size, 0, none⟩ = some (.int .u64 R) := by simp [World.cell?, hE]
 have e1 : W.cell? ⟨w.heap.size, 1, none⟩ = some (.slice A0 n0 c0) := by simp [World.cell?, hE]
 have e2 : W.cell? ⟨w.heap.size, 2, none⟩ = some (.slice A1 n1 c1) := by simp [World.cell?, hE]
 go_wp2_with fail
 refine (is_any7 R A0 A1 n0 c0 n1 c1 1 0 _).mono ?_
 rw [show isB 1 0 n0 n1 = true from isB_row1 (i := 0) hpos]
 rintro e w1 ⟨rfl, hx1⟩
 replace hE := heap_ext hE hx1
 replace hO := heap_ext hO hx1
 replace hW := hW.trans hx1
 clear e0 e1 e2 hx1
 have hlt : w.heap.size + 1 < w1.heap.size := (Array.getElem?_eq_some_iff.1 hO).1
 have e0 : w1.cell? ⟨w.heap.size, 0, none⟩ = some (.int .u64 R) := by simp [World.cell?, hE]
 have ef0 : w1.frozen? ⟨w.heap.size, 0, none⟩ = false := by simp [World.frozen?, hE]
 have e1 : w1.cell? ⟨w.heap.size, 1, none⟩ = some (.slice A0 n0 c0) := by simp [World.cell?, hE]
 have ef1 : w1.frozen? ⟨w.heap.size, 1, none⟩ = false := by simp [World.frozen?, hE]
 have e2 : w1.cell? ⟨w.heap.size, 2, none⟩ = some (.slice A1 n1 c1) := by simp [World.cell?, hE]
 have ef2 : w1.frozen? ⟨w.heap.size, 2, none⟩ = false := by simp [World.frozen?, hE]
 have hne1 : ¬ w.heap.size = w1.heap.size := by omega
 have hlt1 : w.heap.size < w1.heap.size := by omega
 go_upto_region 4 with (fail)
 clear hne1 hlt1
 generalize hC : (rowCells (List.replicate n1 St.zero)).toArray = C at *
 clear e0 e1 e2 ef0 ef1 ef2 hmk
 have hsU' : ∀ p u, (w1.setCell p u).heap.size = w1.heap.size := fun p u => by simp [World.setCell]
 generalize w1.heap.size = gz at *
 have hE2 : (w1.setCell ⟨w.heap.size, 2, none⟩ (.slice (some ⟨gz, 0, none⟩) n1 n1)).heap[w.heap.size]? = some (.cells #[.int .u64 R, .slice A0 n0 c0, .slice (some ⟨gz, 0, none⟩) n1 n1] 49 (0, 0)) := heap_setCell_at hE
 have hO2 : (w1.setCell ⟨w.heap.size, 2, none⟩ (.slice (some ⟨gz, 0, none⟩) n1 n1)).heap[w.heap.size + 1]? = _ := (Below.heap_setCell _ _ _ _ (by simp)).trans hO
 have hsU : (w1.setCell ⟨w.heap.size, 2, none⟩ (.slice (some ⟨gz, 0, none⟩) n1 n1)).heap.size = gz := hsU' _ _
 have hW2 : Ext w (w1.setCell ⟨w.heap.size, 2, none⟩ (.slice (some ⟨gz, 0, none⟩) n1 n1)) := hW.setCell (Nat.le_refl _) _
 generalize w1.setCell ⟨w.heap.size, 2, none⟩ (.slice (some ⟨gz, 0, none⟩) n1 n1) = U at *
 have hx3 : Ext U (U.alloc (.cells C 118)) := (Below.refl _ U).alloc (Nat.le_refl _) _
 have hZ3 : (U.alloc (.cells C 118)).heap[gz]? = some (.cells C 118 (0, 0)) := by rw [← hsU]; exact heap_alloc_new U _
 have hE3 := heap_ext hE2 hx3
 have hO3 := heap_ext hO2 hx3
 have hW3 := hW2.trans hx3
 clear hx3
 generalize U.alloc (.cells C 118) = W3 at *
 have e0 : W3.cell? ⟨w.heap.size, 0, none⟩ = some (.int .u64 R) := by simp [World.cell?, hE3]
 have e1 : W3.cell? ⟨w.heap.size, 1, none⟩ = some (.slice A0 n0 c0) := by simp [World.cell?, hE3]
 have e2 : W3.cell? ⟨w.heap.size, 2, none⟩ = some (.slice (some ⟨gz, 0, none⟩) n1 n1) := by simp [World.cell?, hE3]
 have d0 : W3.cell? ⟨w.heap.size + 1, 0, none⟩ = some (.int .u64 0) := by simp [World.cell?, hO3]
 have df0 : W3.frozen? ⟨w.heap.size + 1, 0, none⟩ = false := by simp [World.frozen?, hO3]
 have d1 : W3.cell? ⟨w.heap.size + 1, 1, none⟩ = some (.slice none 0 0) := by simp [World.cell?, hO3]
 have df1 : W3.frozen? ⟨w.heap.size + 1, 1, none⟩ = false := by simp [World.frozen?, hO3]
 have d2 : W3.cell? ⟨w.heap.size + 1, 2, none⟩ = some (.slice none 0 0) := by simp [World.cell?, hO3]
 have df2 : W3.frozen? ⟨w.heap.size + 1, 2, none⟩ = false := by simp [World.frozen?, hO3]
 clear hE3 hO3 hE hO hE2 hO2
 go_wp2
 refine bodyPost_ret (v := .tuple #[.agg #[.int .u64 R, .slice A0 n0 c0, .slice (some ⟨gz, 0, none⟩) n1 n1], .int .i64 0]) (by simp [results, Try.results81, go_sem, d0, d1, d2]) rfl ⟨_, _, rfl, RowV.made (fr := (0, 0)) (T := 118) ?_ (by simp) (by omega) zero_ok, ?_⟩
 ·rw [hC]
  exact (setAll_other (g := w.heap.size + 1) (k := gz) (by omega) [.int .u64 R, .slice A0 n0 c0, .slice (some ⟨gz, 0, none⟩) n1 n1] 0 W3).trans hZ3
 ·exact setAll_ext (g := w.heap.size + 1) (vs := [.int .u64 R, .slice A0 n0 c0, .slice (some ⟨gz, 0, none⟩) n1 n1]) (i := 0) hW3 (by omega)
set_option maxRecDepth 100000 in
set_option maxHeartbeats 1000000 in
theorem dread_no (R : Int) (A0 A1 : Option Addr) (n0 c0 n1 c1 : Nat) (row i : Int) (w : World) (hno : isB row i n0 n1 = false) :
  Calls Try.prog 79 #[.agg #[.int .u64 R, .slice A0 n0 c0, .slice A1 n1 c1], .int .i64 row, .int .i64 i] w fun e w' => e = .returned (.tuple #[.slice none 0 0, .int .i64 1]) ∧ Ext w w' := by
 have hW : Ext w (w.alloc (.cells #[.int .u64 R, .slice A0 n0 c0, .slice A1 n1 c1] 49)) := (Below.refl _ w).alloc (Nat.le_refl _) _
 go_enter Try.func79, Try.ntmps79
 go_wp2_with fail
 refine (is_any7 R A0 A1 n0 c0 n1 c1 row i _).mono ?_
 rw [hno]
 rintro e w1 ⟨rfl, hx1⟩
 go_wp2
 refine bodyPost_ret (v := .tuple #[.slice none 0 0, .int .i64 1]) (by simp [results, Try.results79, go_sem]) rfl ⟨rfl, hW.trans hx1⟩
set_option maxRecDepth 100000 in
set_option maxHeartbeats 1000000 in
theorem dappend_no (R : Int) (A0 A1 : Option Addr) (n0 c0 n1 c1 : Nat) (row i : Int) (B : Option Addr) (m c2 : Nat) (w : World) (hno : isB row i n0 n1 = false) :
  Calls Try.prog 75 #[.agg #[.int .u64 R, .slice A0 n0 c0, .slice A1 n1 c1], .int .i64 row, .int .i64 i, .slice B m c2] w fun e w' => e = .returned (.tuple #[.agg #[.int .u64 R, .slice A0 n0 c0, .slice A1 n1 c1], .int .i64 1]) ∧ Ext w w' := by
 have hmf : ∀ (fn : Fn) (first cap : Array Value) (w : World), (Instr.makeFunc fn first cap).run Try.prog w = .ok (.func fn first cap) w := fun _ _ _ _ => rfl
 go_enter Try.func75, Try.ntmps75
 go_upto_region 1 with (fail)
 obtain ⟨hW, -, hE, hG, hO⟩ := three_boxes7 w (.cells #[.int .u64 R, .slice A0 n0 c0, .slice A1 n1 c1] 49) (.cells #[.slice B m c2] 30) (.cells #[.int .u64 0, .slice none 0 0, .slice none 0 0] 49)
 generalize ((w.alloc (.cells #[.int .u64 R, .slice A0 n0 c0, .slice A1 n1 c1] 49)).alloc (.cells #[.slice B m c2] 30)).alloc (.cells #[.int .u64 0, .slice none 0 0, .slice none 0 0] 49) = W at *
 have e0 : W.cell? ⟨w.heap.size, 0, none⟩ = some (.int .u64 R) := by simp [World.cell?, hE]
 have e1 : W.cell? ⟨w.heap.size, 1, none⟩ = some (.slice A0 n0 c0) := by simp [World.cell?, hE]
 have e2 : W.cell? ⟨w.heap.size, 2, none⟩ = some (.slice A1 n1 c1) := by simp [World.cell?, hE]
 go_wp2_with fail
 refine (turn_no R A0 A1 n0 c0 n1 c1 row i 124 #[.pointer (some ⟨w.heap.size + 1, 0, none⟩)] W hno).mono ?_
 rintro e w1 ⟨rfl, hx1⟩
 replace hO := heap_ext hO hx1
 replace hW := hW.trans hx1
 clear e0 e1 e2 hE
 have d0 : w1.cell? ⟨w.heap.size + 1 + 1, 0, none⟩ = some (.int .u64 0) := by simp [World.cell?, hO]
 have df0 : w1.frozen? ⟨w.heap.size + 1 + 1, 0, none⟩ = false := by simp [World.frozen?, hO]
 have d1 : w1.cell? ⟨w.heap.size + 1 + 1, 1, none⟩ = some (.slice none 0 0) := by simp [World.cell?, hO]
 have df1 : w1.frozen? ⟨w.heap.size + 1 + 1, 1, none⟩ = false := by simp [World.frozen?, hO]
 have d2 : w1.cell? ⟨w.heap.size + 1 + 1, 2, none⟩ = some (.slice none 0 0) := by simp [World.cell?, hO]
 have df2 : w1.frozen? ⟨w.heap.size + 1 + 1, 2, none⟩ = false := by simp [World.frozen?, hO]
 clear hO
 go_wp2
 refine bodyPost_ret (v := .tuple #[.agg #[.int .u64 R, .slice A0 n0 c0, .slice A1 n1 c1], .int .i64 1]) (by simp [results, Try.results75, go_sem, d0, d1, d2]) rfl ⟨rfl, ?_⟩
 exact setAll_ext (g := w.heap.size + 1 + 1) (vs := [.int .u64 R, .slice A0 n0 c0, .slice A1 n1 c1]) (i := 0) hW (by omega)
set_option maxRecDepth 100000 in
set_option maxHeartbeats 1000000 in
theorem dsync_no (R : Int) (A0 A1 : Option Addr) (n0 c0 n1 c1 : Nat) (row i : Int) (w : World) (hno : isB row i n0 n1 = false) :
  Calls Try.prog 77 #[.agg #[.int .u64 R, .slice A0 n0 c0, .slice A1 n1 c1], .int .i64 row, .int .i64 i] w fun e w' => e = .returned (.tuple #[.agg #[.int .u64 R, .slice A0 n0 c0, .slice A1 n1 c1], .int .i64 1]) ∧ Ext w w' := by
 have hmf : ∀ (fn : Fn) (first cap : Array Value) (w : World), (Instr.makeFunc fn first cap).run Try.prog w = .ok (.func fn first cap) w := fun _ _ _ _ => rfl
 go_enter Try.func77, Try.ntmps77
 go_upto_region 1 with (fail)
 obtain ⟨hW, hE, hO⟩ := two_boxes7 w (.cells #[.int .u64 R, .slice A0 n0 c0, .slice A1 n1 c1] 49) (.cells #[.int .u64 0, .slice none 0 0, .slice none 0 0] 49)
 generalize (w.alloc (.cells #[.int .u64 R, .slice A0 n0 c0, .slice A1 n1 c1] 49)).alloc (.cells #[.int .u64 0, .slice none 0 0, .slice none 0 0] 49) = W at *
 have e0 : W.cell? ⟨w.heap.size, 0, none⟩ = some (.int .u64 R) := by simp [World.cell?, hE]
 have e1 : W.cell? ⟨w.heap.size, 1, none⟩ = some (.slice A0 n0 c0) := by simp [World.cell?, hE]
 have e2 : W.cell? ⟨w.heap.size, 2, none⟩ = some (.slice A1 n1 c1) := by simp [World.cell?, hE]
 go_wp2_with fail
 refine (turn_no R A0 A1 n0 c0 n1 c1 row i 92 #[] W hno).mono ?_
 rintro e w1 ⟨rfl, hx1⟩
 replace hO := heap_ext hO hx1
 replace hW := hW.trans hx1
 clear e0 e1 e2 hE
 have d0 : w1.cell? ⟨w.heap.size + 1, 0, none⟩ = some (.int .u64 0) := by simp [World.cell?, hO]
 have df0 : w1.frozen? ⟨w.heap.size + 1, 0, none⟩ = false := by simp [World.frozen?, hO]
 have d1 : w1.cell? ⟨w.heap.size + 1, 1, none⟩ = some (.slice none 0 0) := by simp [World.cell?, hO]
 have df1 : w1.frozen? ⟨w.heap.size + 1, 1, none⟩ = false := by simp [World.frozen?, hO]
 have d2 : w1.cell? ⟨w.heap.size + 1, 2, none⟩ = some (.slice none 0 0) := by simp [World.cell?, hO]
 have df2 : w1.frozen? ⟨w.heap.size + 1, 2, none⟩ = false := by simp [World.frozen?, hO]
 clear hO
 go_wp2
 refine bodyPost_ret (v := .tuple #[.agg #[.int .u64 R, .slice A0 n0 c0, .slice A1 n1 c1], .int .i64 1]) (by simp [results, Try.results77, go_sem, d0, d1, d2]) rfl ⟨rfl, ?_⟩
 exact setAll_ext (g := w.heap.size + 1) (vs := [.int .u64 R, .slice A0 n0 c0, .slice A1 n1 c1]) (i := 0) hW (by omega)
set_option maxRecDepth 100000 in
set_option maxHeartbeats 1000000 in
theorem dclear_no (R : Int) (A0 A1 : Option Addr) (n0 c0 n1 c1 : Nat) (row : Int) (w : World) (hno : isB row 0 n0 n1 = false) :
  Calls Try.prog 81 #[.agg #[.int .u64 R, .slice A0 n0 c0, .slice A1 n1 c1], .int .i64 row] w fun e w' => e = .returned (.tuple #[.agg #[.int .u64 R, .slice A0 n0 c0, .slice A1 n1 c1], .int .i64 1]) ∧ Ext w w' := by
 go_enter Try.func81, Try.ntmps81
 go_upto_region 1 with (fail)
 obtain ⟨hW, hE, hO⟩ := two_boxes7 w (.cells #[.int .u64 R, .slice A0 n0 c0, .slice A1 n1 c1] 49) (.cells #[.int .u64 0, .slice none 0 0, .slice none 0 0] 49)
 generalize (w.alloc (.cells #[.int .u64 R, .slice A0 n0 c0, .slice A1 n1 c1] 49)).alloc (.cells #[.int .u64 0, .slice none 0 0, .slice none 0 0] 49) = W at *
 have e0 : W.cell? ⟨w.heap.size, 0, none⟩ = some (.int .u64 R) := by simp [World.cell?, hE]
 have e1 : W.cell? ⟨w.heap.size, 1, none⟩ = some (.slice A0 n0 c0) := by simp [World.cell?, hE]
 have e2 : W.cell? ⟨w.heap.size, 2, none⟩ = some (.slice A1 n1 c1) := by simp [World.cell?, hE]
 go_wp2_with fail
 refine (is_any7 R A0 A1 n0 c0 n1 c1 row 0 _).mono ?_
 rw [hno]
 rintro e w1 ⟨rfl, hx1⟩
 replace hE := heap_ext hE hx1
 replace hO := heap_ext hO hx1
 replace hW := hW.trans hx1
 clear e0 e1 e2 hx1
 have e0 : w1.cell? ⟨w.heap.size, 0, none⟩ = some (.int .u64 R) := by simp [World.cell?, hE]
 have e1 : w1.cell? ⟨w.heap.size, 1, none⟩ = some (.slice A0 n0 c0) := by simp [World.cell?, hE]
 have e2 : w1.cell? ⟨w.heap.size, 2, none⟩ = some (.slice A1 n1 c1) := by simp [World.cell?, hE]
 have d0 : w1.cell? ⟨w.heap.size + 1, 0, none⟩ = some (.int .u64 0) := by simp [World.cell?, hO]
 have df0 : w1.frozen? ⟨w.heap.size + 1, 0, none⟩ = false := by simp [World.frozen?, hO]
 have d1 : w1.cell? ⟨w.heap.size + 1, 1, none⟩ = some (.slice none 0 0) := by simp [World.cell?, hO]
 have df1 : w1.frozen? ⟨w.heap.size + 1, 1, none⟩ = false := by simp [World.frozen?, hO]
 have d2 : w1.cell? ⟨w.heap.size + 1, 2, none⟩ = some (.slice none 0 0) := by simp [World.cell?, hO]
 have df2 : w1.frozen? ⟨w.heap.size + 1, 2, none⟩ = false := by simp [World.frozen?, hO]
 clear hE hO
 go_wp2
 refine bodyPost_ret (v := .tuple #[.agg #[.int .u64 R, .slice A0 n0 c0, .slice A1 n1 c1], .int .i64 1]) (by simp [results, Try.results81, go_sem, d0, d1, d2]) rfl ⟨rfl, ?_⟩
 exact setAll_ext (g := w.heap.size + 1) (vs := [.int .u64 R, .slice A0 n0 c0, .slice A1 n1 c1]) (i := 0) hW (by omega)
set_option maxRecDepth 100000 in
theorem drow_any (R : Nat) (v1 v2 : Value) (w : World) (hR : R < 18446744073709551616) :
  Calls Try.prog 83 #[.agg #[.int .u64 (R : Int), v1, v2]] w fun e w' => e = .returned (.int .i64 ((R % 2 : Nat) : Int)) ∧ Ext w w' := by
 have hW : Ext w (w.alloc (.cells #[.int .u64 (R : Int), v1, v2] 49)) := (Below.refl _ w).alloc (Nat.le_refl _) _
 have hm : Int.tmod (R : Int) 2 = ((R % 2 : Nat) : Int) := by rw [Int.tmod_eq_emod_of_nonneg (by omega)]; omega
 have hw1 : IntKind.u64.wrap ((R % 2 : Nat) : Int) = ((R % 2 : Nat) : Int) := by rw [IntKind.wrap_u64]; omega
 have hw2 : IntKind.i64.wrap ((R % 2 : Nat) : Int) = ((R % 2 : Nat) : Int) := by rw [IntKind.wrap_i64]; omega
 generalize hN : R % 2 = N at *
 go_enter Try.func83, Try.ntmps83
 go_wp2
 go_ret
 exact ⟨rfl, hW⟩
set_option maxRecDepth 100000 in
theorem dsetroot_any (R n : Int) (A0 A1 : Option Addr) (n0 c0 n1 c1 : Nat) (w : World) :
  Calls Try.prog 120 #[.agg #[.int .u64 R, .slice A0 n0 c0, .slice A1 n1 c1], .int .u64 n] w fun e w' => e = .returned (.agg #[.int .u64 n, .slice A0 n0 c0, .slice A1 n1 c1]) ∧ Ext w w' := by
 go_enter Try.func120, Try.ntmps120
 go_upto_region 1 with (fail)
 obtain ⟨hW, hE, hO⟩ := two_boxes7 w (.cells #[.int .u64 R, .slice A0 n0 c0, .slice A1 n1 c1] 49) (.cells #[.int .u64 0, .slice none 0 0, .slice none 0 0] 49)
 generalize (w.alloc (.cells #[.int .u64 R, .slice A0 n0 c0, .slice A1 n1 c1] 49)).alloc (.cells #[.int .u64 0, .slice none 0 0, .slice none 0 0] 49) = W at *
 have e0 : W.cell? ⟨w.heap.size, 0, none⟩ = some (.int .u64 R) := by simp [World.cell?, hE]
 have ef0 : W.frozen? ⟨w.heap.size, 0, none⟩ = false := by simp [World.frozen?, hE]
 have e1 : W.cell? ⟨w.heap.size, 1, none⟩ = some (.slice A0 n0 c0) := by simp [World.cell?, hE]
 have ef1 : W.frozen? ⟨w.heap.size, 1, none⟩ = false := by simp [World.frozen?, hE]
 have e2 : W.cell? ⟨w.heap.size, 2, none⟩ = some (.slice A1 n1 c1) := by simp [World.cell?, hE]
 have ef2 : W.frozen? ⟨w.heap.size, 2, none⟩ = false := by simp [World.frozen?, hE]
 have d0 : W.cell? ⟨w.heap.size + 1, 0, none⟩ = some (.int .u64 0) := by simp [World.cell?, hO]
 have df0 : W.frozen? ⟨w.heap.size + 1, 0, none⟩ = false := by simp [World.frozen?, hO]
 have d1 : W.cell? ⟨w.heap.size + 1, 1, none⟩ = some (.slice none 0 0) := by simp [World.cell?, hO]
 have df1 : W.frozen? ⟨w.heap.size + 1, 1, none⟩ = false := by simp [World.frozen?, hO]
 have d2 : W.cell? ⟨w.heap.size + 1, 2, none⟩ = some (.slice none 0 0) := by simp [World.cell?, hO]
 have df2 : W.frozen? ⟨w.heap.size + 1, 2, none⟩ = false := by simp [World.frozen?, hO]
 clear hE hO
 go_wp2
 refine bodyPost_ret (v := .agg #[.int .u64 n, .slice A0 n0 c0, .slice A1 n1 c1]) (by simp [results, Try.results120, go_sem, d0, d1, d2]) rfl ⟨rfl, ?_⟩
 exact setAll_ext (g := w.heap.size + 1) (vs := [.int .u64 n, .slice A0 n0 c0, .slice A1 n1 c1]) (i := 0) (hW.setCell (Nat.le_refl _) _) (by omega)
end Go.Proofs.Ytkdjmfaodojmfaa

namespace Go.Proofs.Ytkdjmfaodojmfaa
open Go.RowKit

/-! disk.New, disk.Crash. -/
set_option maxRecDepth 100000 in
set_option maxHeartbeats 1000000 in
theorem dnew_no (t : Int) (w : World) (ht : t < 1 ∨ 64 < t) :
    Calls Try.prog 70 #[.int .i64 t] w fun e w' => e = .returned (.tuple #[.agg #[.int .u64 0, .slice none 0 0, .slice none 0 0], .int .i64 1]) ∧ Ext w w' := by
  have hb : ∀ W : World, (Instr.build 49 #[]).run Try.prog W = .ok (.agg #[.int .u64 0, .slice none 0 0, .slice none 0 0]) W := fun _ => by kernel_rfl
  have hE : Ext w (w.alloc (.cells #[.int .u64 0, .slice none 0 0, .slice none 0 0] 49)) := (Below.refl _ w).alloc (Nat.le_refl _) _
  rcases ht with h | h
  · go_enter Try.func70, Try.ntmps70
    go_wp2
    refine bodyPost_ret (v := .tuple #[.agg #[.int .u64 0, .slice none 0 0, .slice none 0 0], .int .i64 1]) (by simp [results, Try.results70, go_sem]) rfl ⟨rfl, ?_⟩
    exact hE
  · have h2 : ¬ t < 1 := by omega
    go_enter Try.func70, Try.ntmps70
    go_wp2
    refine bodyPost_ret (v := .tuple #[.agg #[.int .u64 0, .slice none 0 0, .slice none 0 0], .int .i64 1]) (by simp [results, Try.results70, go_sem]) rfl ⟨rfl, ?_⟩
    exact hE
/-- a box is written, and a row made -/
theorem box_made {w wr : World} {g i : Nat} {u : Value} {cs C : Array Value} {T : TypeId} (hg : wr.heap[g]? = some (.cells cs T (0, 0))) (hx : Ext w wr) (hw : w.heap.size ≤ g) :
    ((wr.setCell ⟨g, i, none⟩ u).alloc (.cells C 118)).heap[g]? = some (.cells (cs.setIfInBounds i u) T (0, 0)) ∧ ((wr.setCell ⟨g, i, none⟩ u).alloc (.cells C 118)).heap[wr.heap.size]? = some (.cells C 118 (0, 0)) ∧
      Ext w ((wr.setCell ⟨g, i, none⟩ u).alloc (.cells C 118)) ∧ ∀ (k : Nat) (o : Obj), k ≠ g → wr.heap[k]? = some o → ((wr.setCell ⟨g, i, none⟩ u).alloc (.cells C 118)).heap[k]? = some o := by
  have h1 : (wr.setCell ⟨g, i, none⟩ u).heap[g]? = some (.cells (cs.setIfInBounds i u) T (0, 0)) := heap_setCell_at hg
  have hs : (wr.setCell ⟨g, i, none⟩ u).heap.size = wr.heap.size := by simp [World.setCell]
  have hx2 : Ext (wr.setCell ⟨g, i, none⟩ u) ((wr.setCell ⟨g, i, none⟩ u).alloc (.cells C 118)) := (Below.refl _ _).alloc (Nat.le_refl _) _
  refine ⟨heap_ext h1 hx2, by rw [← hs]; exact heap_alloc_new _ _, Ext.trans (show Ext w (wr.setCell ⟨g, i, none⟩ u) from hx.setCell hw _) hx2, fun k o hk ho => heap_ext ?_ hx2⟩
  rw [Below.heap_setCell _ _ _ _ hk]; exact ho
set_option maxRecDepth 100000 in
set_option maxHeartbeats 4000000 in
theorem dnew_yes (t : Nat) (w : World) (h1 : 1 ≤ t) (h2 : t ≤ 64) :
    Calls Try.prog 70 #[.int .i64 t] w fun e w' => ∃ (A0 A1 : Option Addr) (c0 c1 : Nat), e = .returned (.tuple #[.agg #[.int .u64 0, .slice A0 t c0, .slice A1 t c1], .int .i64 0]) ∧ RowV w' A0 t c0 (List.replicate t St.zero) ∧ RowV w' A1 t c1 (List.replicate t St.zero) ∧ Ext w w' := by
  have hmk := run_mkrow t (by omega)
  have h1' : ¬ (t : Int) < 1 := by omega
  have h2' : ¬ (64 : Int) < (t : Int) := by omega
  generalize hC : (rowCells (List.replicate t St.zero)).toArray = C at *
  go_enter Try.func70, Try.ntmps70
  go_upto_region 4 with (fail)
  obtain ⟨hW, hE, hO⟩ := two_boxes7 w (.cells #[.int .u64 0, .slice none 0 0, .slice none 0 0] 49) (.cells #[.int .u64 0, .slice none 0 0, .slice none 0 0] 49)
  generalize (w.alloc (.cells #[.int .u64 0, .slice none 0 0, .slice none 0 0] 49)).alloc (.cells #[.int .u64 0, .slice none 0 0, .slice none 0 0] 49) = W at *
  go_wp2
  go_loopw [13] (fun i wr => Ext w wr ∧ wr.heap[w.heap.size]? = some (.cells #[.int .u64 0, .slice none 0 0, .slice none 0 0] 49 (0, 0)) ∧
    ((i = .int .i64 0 ∧ wr.heap[w.heap.size + 1]? = some (.cells #[.int .u64 0, .slice none 0 0, .slice none 0 0] 49 (0, 0))) ∨
     (∃ g0, i = .int .i64 1 ∧ wr.heap[w.heap.size + 1]? = some (.cells #[.int .u64 0, .slice (some ⟨g0, 0, none⟩) t t, .slice none 0 0] 49 (0, 0)) ∧ wr.heap[g0]? = some (.cells C 118 (0, 0)) ∧ w.heap.size + 1 < g0) ∨
     (∃ g0 g1, i = .int .i64 2 ∧ wr.heap[w.heap.size + 1]? = some (.cells #[.int .u64 0, .slice (some ⟨g0, 0, none⟩) t t, .slice (some ⟨g1, 0, none⟩) t t] 49 (0, 0)) ∧ wr.heap[g0]? = some (.cells C 118 (0, 0)) ∧ wr.heap[g1]? = some (.cells C 118 (0, 0)) ∧ w.heap.size + 1 < g0 ∧ w.heap.size + 1 < g1))) (fun i _ => 2 - (intOf i).toNat)
  case atStart => exact ⟨hW, hE, .inl ⟨rfl, hO⟩⟩
  case round =>
    clear hW hE hO
    obtain ⟨hx, hE, ⟨rfl, hO⟩ | ⟨g0, rfl, hO, hg0, hl0⟩ | ⟨g0, g1, rfl, hO, hg0, hg1, hl0, hl1⟩⟩ := hrel
    · have hlt : w.heap.size + 1 < wr.heap.size := (Array.getElem?_eq_some_iff.1 hO).1
      have d0 : wr.cell? ⟨w.heap.size + 1, 0, none⟩ = some (.int .u64 0) := by simp [World.cell?, hO]
      have df0 : wr.frozen? ⟨w.heap.size + 1, 0, none⟩ = false := by simp [World.frozen?, hO]
      have d1 : wr.cell? ⟨w.heap.size + 1, 1, none⟩ = some (.slice none 0 0) := by simp [World.cell?, hO]
      have df1 : wr.frozen? ⟨w.heap.size + 1, 1, none⟩ = false := by simp [World.frozen?, hO]
      have d2 : wr.cell? ⟨w.heap.size + 1, 2, none⟩ = some (.slice none 0 0) := by simp [World.cell?, hO]
      have df2 : wr.frozen? ⟨w.heap.size + 1, 2, none⟩ = false := by simp [World.frozen?, hO]
      have HE := Lib.hid hE
      have HO := Lib.hid hO
      clear hE hO
      have hne1 : ¬ w.heap.size + 1 = wr.heap.size := by omega
      go_wp2
      obtain ⟨b1, b2, b3, b4⟩ := box_made (i := 1) (u := .slice (some ⟨wr.heap.size, 0, none⟩) t t) (C := C) HO.out hx (by omega)
      go_roundw
      case rel => exact ⟨b3, b4 _ _ (by omega) HE.out, .inr (.inl ⟨wr.heap.size, by go_num, b1, b2, by omega⟩)⟩
      case measure => simp [intOf]
    · have hlt : w.heap.size + 1 < wr.heap.size := (Array.getElem?_eq_some_iff.1 hO).1
      have d0 : wr.cell? ⟨w.heap.size + 1, 0, none⟩ = some (.int .u64 0) := by simp [World.cell?, hO]
      have df0 : wr.frozen? ⟨w.heap.size + 1, 0, none⟩ = false := by simp [World.frozen?, hO]
      have d1 : wr.cell? ⟨w.heap.size + 1, 1, none⟩ = some (.slice (some ⟨g0, 0, none⟩) t t) := by simp [World.cell?, hO]
      have df1 : wr.frozen? ⟨w.heap.size + 1, 1, none⟩ = false := by simp [World.frozen?, hO]
      have d2 : wr.cell? ⟨w.heap.size + 1, 2, none⟩ = some (.slice none 0 0) := by simp [World.cell?, hO]
      have df2 : wr.frozen? ⟨w.heap.size + 1, 2, none⟩ = false := by simp [World.frozen?, hO]
      have HE := Lib.hid hE
      have HO := Lib.hid hO
      clear hE hO
      have hne1 : ¬ w.heap.size + 1 = wr.heap.size := by omega
      go_wp2
      obtain ⟨b1, b2, b3, b4⟩ := box_made (i := 2) (u := .slice (some ⟨wr.heap.size, 0, none⟩) t t) (C := C) HO.out hx (by omega)
      go_roundw
      case rel => exact ⟨b3, b4 _ _ (by omega) HE.out, .inr (.inr ⟨g0, wr.heap.size, by go_num, b1, b4 _ _ (by omega) hg0, b2, by omega, by omega⟩)⟩
      case measure => simp [intOf]
    · have hlt : w.heap.size + 1 < wr.heap.size := (Array.getElem?_eq_some_iff.1 hO).1
      have d0 : wr.cell? ⟨w.heap.size + 1, 0, none⟩ = some (.int .u64 0) := by simp [World.cell?, hO]
      have d1 : wr.cell? ⟨w.heap.size + 1, 1, none⟩ = some (.slice (some ⟨g0, 0, none⟩) t t) := by simp [World.cell?, hO]
      have d2 : wr.cell? ⟨w.heap.size + 1, 2, none⟩ = some (.slice (some ⟨g1, 0, none⟩) t t) := by simp [World.cell?, hO]
      have e0 : wr.cell? ⟨w.heap.size, 0, none⟩ = some (.int .u64 0) := by simp [World.cell?, hE]
      have ef0 : wr.frozen? ⟨w.heap.size, 0, none⟩ = false := by simp [World.frozen?, hE]
      have e1 : wr.cell? ⟨w.heap.size, 1, none⟩ = some (.slice none 0 0) := by simp [World.cell?, hE]
      have ef1 : wr.frozen? ⟨w.heap.size, 1, none⟩ = false := by simp [World.frozen?, hE]
      have e2 : wr.cell? ⟨w.heap.size, 2, none⟩ = some (.slice none 0 0) := by simp [World.cell?, hE]
      have ef2 : wr.frozen? ⟨w.heap.size, 2, none⟩ = false := by simp [World.frozen?, hE]
      clear hE hO
      go_wp2
      refine bodyPost_ret (v := .tuple #[.agg #[.int .u64 0, .slice (some ⟨g0, 0, none⟩) t t, .slice (some ⟨g1, 0, none⟩) t t], .int .i64 0]) (by simp [results, Try.results70, go_sem, e0, e1, e2]) rfl ⟨_, _, _, _, rfl, RowV.made (fr := (0, 0)) (T := 118) ?_ (by simp) (by omega) zero_ok, RowV.made (fr := (0, 0)) (T := 118) ?_ (by simp) (by omega) zero_ok, ?_⟩
      · rw [hC]
        exact (setAll_other (g := w.heap.size) (k := g0) (by omega) [.int .u64 0, .slice (some ⟨g0, 0, none⟩) t t, .slice (some ⟨g1, 0, none⟩) t t] 0 wr).trans hg0
      · rw [hC]
        exact (setAll_other (g := w.heap.size) (k := g1) (by omega) [.int .u64 0, .slice (some ⟨g0, 0, none⟩) t t, .slice (some ⟨g1, 0, none⟩) t t] 0 wr).trans hg1
      · exact setAll_ext (g := w.heap.size) (vs := [.int .u64 0, .slice (some ⟨g0, 0, none⟩) t t, .slice (some ⟨g1, 0, none⟩) t t]) (i := 0) hx (Nat.le_refl _)
end Go.Proofs.Ytkdjmfaodojmfaa

namespace Go.Proofs.Ytkdjmfaodojmfaa
open Go.RowKit

/-! slices.Grow and slices.Concat at rows of streams; disk.Right. -/
set_option maxRecDepth 100000 in
set_option maxHeartbeats 1000000 in
theorem grow_any (n : Nat) (w : World) (hn : n ≤ 65536) :
    Calls Try.prog 140 #[.slice none 0 0, .int .i64 n] w fun e w' => ∃ v, e = .returned v ∧ w'.ownsRow w.heap.size 118 2 v 0 [] ∧ Ext w w' := by
  obtain ⟨i0, hi0, hz0, hz1, hz2⟩ := info_parts info_stream
  have hwn : IntKind.i64.wrap (n : Int) = (n : Int) := by rw [IntKind.wrap_i64]; omega
  have hneg : ¬ (n : Int) < 0 := by omega
  have hsl : ∀ W, (Instr.slice 46 (.slice none 0 0) none (some (.int .i64 0)) none).run Try.prog W = .ok (.slice none 0 0) W := fun W => by
    simp [Instr.slice, run_underlying Try.underlying46, Instr.sliceBounds, Instr.sliceBound, asIntOf, sizeOf, typeInfo, hi0]
  rcases Nat.eq_zero_or_pos n with h0 | h0
  · subst h0
    go_enter Try.func140, Try.ntmps140
    go_wp2
    go_ret
    exact ⟨_, rfl, World.ownsRow_nil _ _ _ _, Ext.refl _⟩
  · have hpos : 0 < (n : Int) := by omega
    have hrun := fun W => Lib.run_append_nil_zeros (P := Try.prog) W 46 3 46 118 i0 _ .i64 .i64 Try.underlying46 Try.underlying3 hi0 hz0 n h0 (by omega) (by omega) (by rw [hz2]; omega)
    have hcap1 := grownCap_ge w n 0 118
    have hcap2 := grownCap_le_maxLen w n 0 118 (by simp only [maxLen]; omega)
    have hsl2 : ∀ W cap, (Instr.slice 46 (.slice (some ⟨w.heap.size, 0, none⟩) n cap) none (some (.int .i64 0)) none).run Try.prog W = .ok (.slice (some ⟨w.heap.size, 0, none⟩) 0 cap) W := fun W cap => by
      simp [Instr.slice, run_underlying Try.underlying46, Instr.sliceBounds, Instr.sliceBound, asIntOf, sizeOf, typeInfo, hi0, Addr.add]
    go_enter Try.func140, Try.ntmps140
    go_wp2_with (at_builtin; refine Lib.wpList_append_run _ rfl _ _ _ _ rfl _ _ rfl rfl _ _ (hrun _) ?_)
    go_ret
    refine ⟨_, rfl, ⟨by simp, .inr ⟨_, _, _, rfl, Nat.le_refl _, heap_alloc_new w _, Nat.zero_le _, hcap2, ?_, by simp⟩⟩, Ext.new w _⟩
    rw [Array.size_append, size_zeroCells, size_zeroCells]
    simp
    omega
set_option maxRecDepth 100000 in
set_option maxHeartbeats 4000000 in
theorem concat_any (g : Nat) (A0 A1 : Option Addr) (n0 c0 n1 c1 : Nat) (l0 l1 : List St) (w : World) (hg0 : w.cell? ⟨g, 0, none⟩ = some (.slice A0 n0 c0)) (hg1 : w.cell? ⟨g, 1, none⟩ = some (.slice A1 n1 c1)) (h0 : RowV w A0 n0 c0 l0) (h1 : RowV w A1 n1 c1 l1) (hn0 : n0 ≤ 1000) (hn1 : n1 ≤ 1000) :
    Calls Try.prog 122 #[.slice (some ⟨g, 0, none⟩) 2 2] w fun e w' => ∃ v, e = .returned v ∧ OwnR w' w.heap.size v (n0 + n1) (l0 ++ l1) ∧ Ext w w' := by
  obtain ⟨i0, hi0, hz0, hz1, hz2⟩ := info_parts info_stream
  have hlen0 := h0.len
  have hlen1 := h1.len
  have hw0 : IntKind.i64.wrap (n0 : Int) = (n0 : Int) := by rw [IntKind.wrap_i64]; omega
  have hw1 : IntKind.i64.wrap ((n0 : Int) + (n1 : Int)) = (n0 : Int) + (n1 : Int) := by rw [IntKind.wrap_i64]; omega
  have hp0 : ¬ (n0 : Int) < 0 := by omega
  have hp1 : ¬ (n0 : Int) + (n1 : Int) < 0 := by omega
  go_enter Try.func122, Try.ntmps122
  go_wp2
  go_loopw [3, 11] (fun sz i wr => w = wr ∧ ((i = .int .i64 0 ∧ sz = .int .i64 0) ∨ (i = .int .i64 1 ∧ sz = .int .i64 n0) ∨ (i = .int .i64 2 ∧ sz = .int .i64 ((n0 : Int) + (n1 : Int))))) (fun _ i _ => 2 - (intOf i).toNat)
  case atStart => exact ⟨rfl, .inl ⟨rfl, rfl⟩⟩
  case round =>
    obtain ⟨rfl, ⟨rfl, rfl⟩ | ⟨rfl, rfl⟩ | ⟨rfl, rfl⟩⟩ := hrel
    · go_wp2
      go_roundw
      case rel => exact ⟨by trivial, .inr (.inl ⟨by go_num, by go_num⟩)⟩
      case measure => simp [intOf]
    · go_wp2
      go_roundw
      case rel => exact ⟨by trivial, .inr (.inr ⟨by go_num, by go_num⟩)⟩
      case measure => simp [intOf]
    · go_wp2_with fail
      have hgr := grow_any (n0 + n1) w (by omega)
      simp only [Int.natCast_add] at hgr
      refine hgr.mono ?_
      rintro e w1 ⟨v1, rfl, hown1, hx1⟩
      have hr1 : OwnR w1 w.heap.size v1 0 [] := ⟨hown1, fun s h => by cases h⟩
      clear hgr hown1 hw0 hw1 hp0 hp1
      go_wp2
      go_loopw [6, 27] (fun v i wq => Ext w wq ∧ ((i = .int .i64 0 ∧ OwnR wq w.heap.size v 0 []) ∨ (i = .int .i64 1 ∧ OwnR wq w.heap.size v n0 l0) ∨ (i = .int .i64 2 ∧ OwnR wq w.heap.size v (n0 + n1) (l0 ++ l1)))) (fun _ i _ => 2 - (intOf i).toNat)
      case atStart => exact ⟨hx1, .inl ⟨rfl, hr1⟩⟩
      case round =>
        clear hr1 hx1
        obtain ⟨hx, ⟨rfl, hr⟩ | ⟨rfl, hr⟩ | ⟨rfl, hr⟩⟩ := hrel
        · have d0 := hx.cell hg0
          go_wp2_with (at_builtin; go_loud (refine wpList_append_own_any rfl (.tmp 31) (.tmp 32) _ _ rfl w.heap.size i0 _ 2 32 Try.underlying46 hi0 hz0 hz1 hz2 rfl (by decide) _ 0 [] rfl hr.own A0 n0 c0 (rowCells l0) rfl (by rw [rowCells_length, hlen0]) (h0.cells.ext hx) h0.none0 (rowCells_one _) (by simp only [maxLen]; omega) (by omega) hx.size ?_); intro v2 w2 hown2 hb2)
          try simp only [Nat.zero_add, List.nil_append] at hown2
          have hx2 : Ext w w2 := Below.trans hx hb2
          go_roundw
          case rel => exact ⟨hx2, .inr (.inl ⟨by go_num, hown2, fun s hs => (h0.ok s hs).ext hx2⟩)⟩
          case measure => simp [intOf]
        · have d1 := hx.cell hg1
          go_wp2_with (at_builtin; go_loud (refine wpList_append_own_any rfl (.tmp 31) (.tmp 32) _ _ rfl w.heap.size i0 _ 2 32 Try.underlying46 hi0 hz0 hz1 hz2 rfl (by decide) _ n0 (rowCells l0) rfl hr.own A1 n1 c1 (rowCells l1) rfl (by rw [rowCells_length, hlen1]) (h1.cells.ext hx) h1.none0 (rowCells_one _) (by simp only [maxLen]; omega) (by omega) hx.size ?_); intro v2 w2 hown2 hb2)
          have hx2 : Ext w w2 := Below.trans hx hb2
          go_roundw
          case rel => exact ⟨hx2, .inr (.inr ⟨by go_num, by rw [rowCells_append]; exact hown2, fun s hs => by
            rcases List.mem_append.1 hs with hs | hs
            · exact (h0.ok s hs).ext hx2
            · exact (h1.ok s hs).ext hx2⟩)⟩
          case measure => simp [intOf]
        · go_wp2
          go_ret
          exact ⟨_, rfl, hr, hx⟩
/-- is a stream right? -/
def St.right (s : St) : Bool := rightB s.k s.q
/-- is a disk right? -/
def rightD (n0 n1 : Nat) (l0 l1 : List St) : Bool := decide (1 ≤ n0 ∧ n0 ≤ 64 ∧ n1 = n0) && (l0 ++ l1).all St.right
theorem two_cells (w : World) (u v : Value) (T : TypeId) : (w.alloc (.cells #[u, v] T)).cell? ⟨w.heap.size, 0, none⟩ = some u ∧ (w.alloc (.cells #[u, v] T)).cell? ⟨w.heap.size, 1, none⟩ = some v := by
  constructor <;> simp [go_sem]
set_option maxRecDepth 100000 in
set_option maxHeartbeats 4000000 in
theorem dright_any (R : Int) (A0 A1 : Option Addr) (n0 c0 n1 c1 : Nat) (l0 l1 : List St) (w : World) (h0 : RowV w A0 n0 c0 l0) (h1 : RowV w A1 n1 c1 l1) :
    Calls Try.prog 74 #[.agg #[.int .u64 R, .slice A0 n0 c0, .slice A1 n1 c1]] w fun e w' => e = .returned (.bool (rightD n0 n1 l0 l1)) ∧ Ext w w' := by
  have hlen0 := h0.len
  have hlen1 := h1.len
  have hcap0 := Nat.le_trans h0.le h0.cap
  have hcap1 := Nat.le_trans h1.le h1.cap
  simp only [maxLen] at hcap0 hcap1
  have hw0 : IntKind.i64.wrap (n0 : Int) = (n0 : Int) := by rw [IntKind.wrap_i64]; omega
  have hw1 : IntKind.i64.wrap (n1 : Int) = (n1 : Int) := by rw [IntKind.wrap_i64]; omega
  have hbs : ∀ (W : World) (A B : Option Addr) (n c m d : Nat), (Instr.buildSlice 168 2 #[(0, .slice A n c), (1, .slice B m d)]).run Try.prog W = .ok (.slice (some ⟨W.heap.size, 0, none⟩) 2 2) (W.alloc (.cells #[.slice A n c, .slice B m d] 46)) := fun _ _ _ _ _ _ _ => by kernel_rfl
  obtain ⟨b, hb0⟩ : ∃ b, b = rightD n0 n1 l0 l1 := ⟨_, rfl⟩
  rw [← hb0]
  go_enter Try.func74, Try.ntmps74
  go_upto_region 1 with (fail)
  have hW : Ext w (w.alloc (.cells #[.int .u64 R, .slice A0 n0 c0, .slice A1 n1 c1] 49)) := (Below.refl _ w).alloc (Nat.le_refl _) _
  have hE : (w.alloc (.cells #[.int .u64 R, .slice A0 n0 c0, .slice A1 n1 c1] 49)).heap[w.heap.size]? = some (.cells #[.int .u64 R, .slice A0 n0 c0, .slice A1 n1 c1] 49 (0, 0)) := heap_alloc_new w _
  generalize w.alloc (.cells #[.int .u64 R, .slice A0 n0 c0, .slice A1 n1 c1] 49) = W at *
  have e0 : W.cell? ⟨w.heap.size, 0, none⟩ = some (.int .u64 R) := by simp [World.cell?, hE]
  have e1 : W.cell? ⟨w.heap.size, 1, none⟩ = some (.slice A0 n0 c0) := by simp [World.cell?, hE]
  have e2 : W.cell? ⟨w.heap.size, 2, none⟩ = some (.slice A1 n1 c1) := by simp [World.cell?, hE]
  clear hE
  by_cases hlo : n0 < 1
  · obtain rfl : b = false := by rw [hb0]; simp [rightD]; omega
    clear hb0
    have hlo' : (n0 : Int) < 1 := by omega
    go_wp2
    go_ret
    exact ⟨rfl, hW⟩
  have hlo' : ¬ (n0 : Int) < 1 := by omega
  by_cases hhi : 64 < n0
  · obtain rfl : b = false := by rw [hb0]; simp [rightD]; omega
    clear hb0
    have hhi' : (64 : Int) < (n0 : Int) := by omega
    go_wp2
    go_ret
    exact ⟨rfl, hW⟩
  have hhi' : ¬ (64 : Int) < (n0 : Int) := by omega
  rcases (Decidable.em (n1 = n0)).symm with hne | hne
  · obtain rfl : b = false := by rw [hb0]; simp [rightD, hne]
    clear hb0
    have hne' : ¬ (n1 : Int) = (n0 : Int) := by omega
    go_wp2
    go_ret
    exact ⟨rfl, hW⟩
  subst hne
  go_upto_region 4 with (fail)
  have hx4 : Ext W (W.alloc (.cells #[.slice A0 n1 c0, .slice A1 n1 c1] 46)) := (Below.refl _ W).alloc (Nat.le_refl _) _
  obtain ⟨d0, d1⟩ := two_cells W (.slice A0 n1 c0) (.slice A1 n1 c1) 46
  have hcat := concat_any W.heap.size A0 A1 n1 c0 n1 c1 l0 l1 (W.alloc (.cells #[.slice A0 n1 c0, .slice A1 n1 c1] 46)) d0 d1 ((h0.ext hW).ext hx4) ((h1.ext hW).ext hx4) (by omega) (by omega)
  go_wp2_with fail
  refine hcat.mono ?_
  rintro e w2 ⟨v, rfl, hown, hx2⟩
  obtain ⟨C, cc, rfl, hrow⟩ := hown.form
  have hX2 := (hW.trans hx4).trans hx2
  have hlen := hrow.len
  clear hcat hown d0 d1 hx4 hx2 e0 e1 e2 h0 h1
  have hrd : rightD n1 n1 l0 l1 = (l0 ++ l1).all St.right := by
    unfold rightD
    rw [decide_eq_true (by omega), Bool.true_and]
  rw [hrd] at hb0
  clear hrd
  generalize l0 ++ l1 = L at *
  have hN : n1 + n1 ≤ 128 := by omega
  generalize n1 + n1 = N at *
  go_wp2
  go_loopw [33] (fun i wq => ∃ j : Nat, j ≤ N ∧ i = .int .i64 j ∧ (∀ (k : Nat) (s : St), k < j → L[k]? = some s → s.right = true) ∧ Ext w2 wq) (fun i _ => N - (intOf i).toNat)
  case atStart => exact ⟨0, Nat.zero_le _, rfl, fun k s hk => absurd hk (Nat.not_lt_zero _), Ext.refl _⟩
  case round =>
    obtain ⟨j, hj, rfl, hall, hx⟩ := hrel
    rcases Nat.lt_or_ge j N with hjN | hjN
    · have hs : L[j]? = some (L[j]'(by omega)) := List.getElem?_eq_getElem _
      generalize (L[j]'(by omega)) = s at *
      obtain ⟨a, rfl, ha0, ha1, -⟩ := (hrow.ext hx).at hs
      have hri := fun W => right_any s.D s.q s.cd s.k W
      go_wp2_with fail
      refine (hri _).mono ?_
      rintro e w3 ⟨rfl, hx3⟩
      have hx5 : Ext w2 w3 := (hx.trans ((Below.refl _ _).alloc (Nat.le_refl _) _)).trans hx3
      cases hb : rightB s.k s.q with
      | true =>
        go_wp2
        go_roundw
        case rel =>
          refine ⟨j + 1, by omega, by go_num, fun k x hk hxk => ?_, hx5⟩
          rcases Nat.lt_or_ge k j with h | h
          · exact hall k x h hxk
          · obtain rfl : k = j := by omega
            rw [hs] at hxk
            cases hxk
            exact hb
        case measure => simp [intOf]; omega
      | false =>
        have hno : L.all St.right = false := by
          rw [List.all_eq_false]
          exact ⟨s, List.mem_of_getElem? hs, by simp [St.right, hb]⟩
        obtain rfl : b = false := by rw [hb0, hno]
        clear hb0
        go_wp2
        go_ret
        exact ⟨rfl, hX2.trans hx5⟩
    · obtain rfl : j = N := by omega
      have hyes : L.all St.right = true := by
        rw [List.all_eq_true]
        intro s hs
        obtain ⟨k, hk⟩ := List.getElem?_of_mem hs
        exact hall k s (by have := (List.getElem?_eq_some_iff.1 hk).1; omega) hk
      obtain rfl : b = true := by rw [hb0, hyes]
      clear hb0
      go_wp2
      go_ret
      exact ⟨rfl, hX2.trans hx⟩
end Go.Proofs.Ytkdjmfaodojmfaa

namespace Go.Proofs.Ytkdjmfaodojmfaa
open Go.RowKit

/-! Are two rows, two disks the same? -/
set_option maxRecDepth 100000 in
set_option maxHeartbeats 4000000 in
theorem all_yes (A B : Option Addr) (n c c2 : Nat) (l L : List St) (w : World) (hA : RowV w A n c l) (hB : RowV w B n c2 L) (hk : l.map St.key = L.map St.key) :
    Calls Try.prog 121 #[.slice A n c, .slice B n c2] w fun e w' => e = .returned (.bool true) ∧ Ext w w' := by
  have hcap := Nat.le_trans hA.le hA.cap
  simp only [maxLen] at hcap
  have hlen := hA.len
  have hlenB := hB.len
  go_enter Try.func121, Try.ntmps121
  go_wp2
  go_loopw [5] (fun i wr => ∃ j : Nat, j ≤ n ∧ i = .int .i64 j ∧ Ext w wr) (fun i _ => n - (intOf i).toNat)
  case atStart => exact ⟨0, Nat.zero_le _, rfl, Ext.refl _⟩
  case round =>
    obtain ⟨j, hj, rfl, hxr⟩ := hrel
    rcases Nat.lt_or_ge j n with hjn | hjn
    · have hs : l[j]? = some (l[j]'(by omega)) := List.getElem?_eq_getElem _
      have hS : L[j]? = some (L[j]'(by omega)) := List.getElem?_eq_getElem _
      generalize (l[j]'(by omega)) = s at *
      generalize (L[j]'(by omega)) = S at *
      have hkey : s.key = S.key := by
        have h1 : (l.map St.key)[j]? = some s.key := by rw [List.getElem?_map, hs]; rfl
        have h2 : (L.map St.key)[j]? = some S.key := by rw [List.getElem?_map, hS]; rfl
        rw [hk, h2] at h1
        exact (Option.some.inj h1).symm
      have hsame : sameB s.d S.d s.k S.k = true := by
        simp only [St.key, Prod.mk.injEq] at hkey
        simp [sameB, hkey.1, hkey.2]
      obtain ⟨a, rfl, a0, a1, aok⟩ := hA.at hs
      obtain ⟨b, rfl, b0, b1, bok⟩ := hB.at hS
      have hX : ∀ wx, Ext wr wx → wx.cell? (a.add (j * 2)) = some (.slice s.D s.q s.cd) ∧ wx.cell? ⟨(a.add (j * 2)).block, (a.add (j * 2)).off + 1, none⟩ = some (.int .i64 s.k) ∧ wx.cell? (b.add (j * 2)) = some (.slice S.D S.q S.cd) ∧ wx.cell? ⟨(b.add (j * 2)).block, (b.add (j * 2)).off + 1, none⟩ = some (.int .i64 S.k) ∧ Ext w wx := fun wx h =>
        ⟨(hxr.trans h).cell a0, (hxr.trans h).cell a1, (hxr.trans h).cell b0, (hxr.trans h).cell b1, hxr.trans h⟩
      have hini : (j : Int) < (n : Int) := by omega
      go_wp2_with fail
      refine' wp_region_sure ⟨((some 18, [], none) :: (some 19, [], none) :: (some 20, [0, 1], none) :: (some 21, [2], none) :: (some 22, [], none) :: (some 23, [], none) :: (some 24, [4, 5], none) :: (some 25, [6], none) :: (some 26, [3, 7], none) :: (some 6, [8, 8, 0, 1, 2, 3, 4, 5, 6, 7, 8], none) :: []), (0 :: 0 :: 3 :: 7 :: 0 :: 0 :: 48 :: 112 :: 255 :: 511 :: []), (true :: true :: true :: true :: true :: true :: true :: true :: true :: []), [], 0⟩ 9 29 ((0, 18) :: (1, 19) :: (2, 20) :: (3, 21) :: (4, 22) :: (5, 23) :: (6, 24) :: (7, 25) :: (8, 26) :: []) ((0, 18) :: (1, 19) :: (2, 20) :: (3, 21) :: (4, 22) :: (5, 23) :: (6, 24) :: (7, 25) :: (8, 26) :: []) (.det _ :: .det _ :: .det _ :: .det _ :: .det _ :: .det _ :: .det _ :: .det _ :: .det _ :: []) (by kernel_rfl) (by kernel_rfl) (by kernel_rfl) rfl (by kernel_rfl) (by kernel_rfl) rfl ?hone ?hend
      case hone =>
        intro CS frS VS hCS ha hV
        have qs0 := slot_val (t := 0) ha rfl
        simp only [List.getElem_toArray, List.getElem_cons_succ, List.getElem_cons_zero] at qs0
        have qs1 := slot_val (t := 1) ha rfl
        simp only [List.getElem_toArray, List.getElem_cons_succ, List.getElem_cons_zero] at qs1
        have qs5 := slot_val (t := 5) ha rfl
        simp only [List.getElem_toArray, List.getElem_cons_succ, List.getElem_cons_zero] at qs5
        have HCS := Lib.hid hCS
        have HVS := Lib.hid hV
        clear ha hCS hV
        -- 0: slot 18 := Op.move t0
        refine sure_det (js := []) (ts := [0]) (gd := none) (place_at HVS.out (k := 0) rfl) (by rw [HCS.out]; kernel_rfl) ?_ ?_
        · intro wx hx ρ hρ hs hf
          have hρc := hρ.const
          have hρf := hρ.func
          obtain ⟨fx0, -⟩ := hf
          rw [qs0] at fx0
          clear hs
          clear HCS HVS qs0 qs1 qs5
          refine run_plain ?_
          refine op_move rfl fx0 ?_
          exact detK.mk
        -- 1: slot 19 := Op.move t5
        refine sure_det (js := []) (ts := [5]) (gd := none) (place_at HVS.out (k := 1) rfl) (by rw [HCS.out]; kernel_rfl) ?_ ?_
        · intro wx hx ρ hρ hs hf
          have hρc := hρ.const
          have hρf := hρ.func
          obtain ⟨fx5, -⟩ := hf
          rw [qs5] at fx5
          clear hs
          clear HCS HVS qs0 qs1 qs5
          refine run_plain ?_
          refine op_move rfl fx5 ?_
          exact detK.mk
        -- 2: slot 20 := Op.indexAddr 46 t18 t19
        refine sure_det (js := [(0, 18), (1, 19)]) (ts := []) (gd := none) (place_at HVS.out (k := 2) rfl) (by rw [HCS.out]; kernel_rfl) ?_ ?_
        · intro wx hx ρ hρ hs hf
          have hρc := hρ.const
          have hρf := hρ.func
          obtain ⟨sn0, sn1, -⟩ := hs
          rw [place_at HVS.out (k := 0) rfl] at sn0
          replace sn0 : ρ (.tmp 18) = _ := sn0
          rw [place_at HVS.out (k := 1) rfl] at sn1
          replace sn1 : ρ (.tmp 19) = _ := sn1
          clear hf
          clear HCS HVS qs0 qs1 qs5
          refine run_plain ?_
          unfold runs
          go_simp
          exact detK.mk
        -- 3: slot 21 := Op.load 118 t20
        refine sure_det (js := [(2, 20)]) (ts := []) (gd := none) (place_at HVS.out (k := 3) rfl) (by rw [HCS.out]; kernel_rfl) ?_ ?_
        · intro wx hx ρ hρ hs hf
          have hρc := hρ.const
          have hρf := hρ.func
          obtain ⟨sn2, -⟩ := hs
          rw [place_at HVS.out (k := 2) rfl] at sn2
          replace sn2 : ρ (.tmp 20) = _ := sn2
          clear hf
          clear HCS HVS qs0 qs1 qs5
          refine run_plain ?_
          obtain ⟨p0, p1, p2, p3, -⟩ := hX wx hx.drawn
          unfold runs
          go_simp
          exact detK.mk
        -- 4: slot 22 := Op.move t1
        refine sure_det (js := []) (ts := [1]) (gd := none) (place_at HVS.out (k := 4) rfl) (by rw [HCS.out]; kernel_rfl) ?_ ?_
        · intro wx hx ρ hρ hs hf
          have hρc := hρ.const
          have hρf := hρ.func
          obtain ⟨fx1, -⟩ := hf
          rw [qs1] at fx1
          clear hs
          clear HCS HVS qs0 qs1 qs5
          refine run_plain ?_
          refine op_move rfl fx1 ?_
          exact detK.mk
        -- 5: slot 23 := Op.move t5
        refine sure_det (js := []) (ts := [5]) (gd := none) (place_at HVS.out (k := 5) rfl) (by rw [HCS.out]; kernel_rfl) ?_ ?_
        · intro wx hx ρ hρ hs hf
          have hρc := hρ.const
          have hρf := hρ.func
          obtain ⟨fx5, -⟩ := hf
          rw [qs5] at fx5
          clear hs
          clear HCS HVS qs0 qs1 qs5
          refine run_plain ?_
          refine op_move rfl fx5 ?_
          exact detK.mk
        -- 6: slot 24 := Op.indexAddr 46 t22 t23
        refine sure_det (js := [(4, 22), (5, 23)]) (ts := []) (gd := none) (place_at HVS.out (k := 6) rfl) (by rw [HCS.out]; kernel_rfl) ?_ ?_
        · intro wx hx ρ hρ hs hf
          have hρc := hρ.const
          have hρf := hρ.func
          obtain ⟨sn4, sn5, -⟩ := hs
          rw [place_at HVS.out (k := 4) rfl] at sn4
          replace sn4 : ρ (.tmp 22) = _ := sn4
          rw [place_at HVS.out (k := 5) rfl] at sn5
          replace sn5 : ρ (.tmp 23) = _ := sn5
          clear hf
          clear HCS HVS qs0 qs1 qs5
          refine run_plain ?_
          unfold runs
          go_simp
          exact detK.mk
        -- 7: slot 25 := Op.load 118 t24
        refine sure_det (js := [(6, 24)]) (ts := []) (gd := none) (place_at HVS.out (k := 7) rfl) (by rw [HCS.out]; kernel_rfl) ?_ ?_
        · intro wx hx ρ hρ hs hf
          have hρc := hρ.const
          have hρf := hρ.func
          obtain ⟨sn6, -⟩ := hs
          rw [place_at HVS.out (k := 6) rfl] at sn6
          replace sn6 : ρ (.tmp 24) = _ := sn6
          clear hf
          clear HCS HVS qs0 qs1 qs5
          refine run_plain ?_
          obtain ⟨p0, p1, p2, p3, -⟩ := hX wx hx.drawn
          unfold runs
          go_simp
          exact detK.mk
        -- 8: slot 26 := Op.call { call ( 89), args := #[t21, t25], argTypes := #[118, 118] }
        refine sure_det (js := [(3, 21), (7, 25)]) (ts := []) (gd := none) (place_at HVS.out (k := 8) rfl) (by rw [HCS.out]; kernel_rfl) ?_ ?_
        · intro wx hx ρ hρ hs hf
          have hρc := hρ.const
          have hρf := hρ.func
          obtain ⟨sn3, sn7, -⟩ := hs
          rw [place_at HVS.out (k := 3) rfl] at sn3
          replace sn3 : ρ (.tmp 21) = _ := sn3
          rw [place_at HVS.out (k := 7) rfl] at sn7
          replace sn7 : ρ (.tmp 25) = _ := sn7
          clear hf
          clear HCS HVS qs0 qs1 qs5
          refine run_plain ?_
          refine op_call rfl hρ Try.call89 (map_two sn3 sn7) ?_
          refine Calls.mono (same_any s.D S.D s.q s.cd S.q S.cd s.k S.k s.d S.d _ (StOK.ext aok (hX _ hx.drawn).2.2.2.2) (StOK.ext bok (hX _ hx.drawn).2.2.2.2)) ?_; rw [hsame]; rintro e w' ⟨rfl, hx5⟩; refine ⟨_, rfl, ?_⟩; exact detK.ext hx5
        exact trivial
      case hend =>
        intro xs wx hx hg
        have gk0 : xs 0 = _ := goods_get hg (i := 0) (j := 0) (d := 18) rfl
        have gk1 : xs 1 = _ := goods_get hg (i := 1) (j := 1) (d := 19) rfl
        have gk2 : xs 2 = _ := goods_get hg (i := 2) (j := 2) (d := 20) rfl
        have gk3 : xs 3 = _ := goods_get hg (i := 3) (j := 3) (d := 21) rfl
        have gk4 : xs 4 = _ := goods_get hg (i := 4) (j := 4) (d := 22) rfl
        have gk5 : xs 5 = _ := goods_get hg (i := 5) (j := 5) (d := 23) rfl
        have gk6 : xs 6 = _ := goods_get hg (i := 6) (j := 6) (d := 24) rfl
        have gk7 : xs 7 = _ := goods_get hg (i := 7) (j := 7) (d := 25) rfl
        have gk8 : xs 8 = _ := goods_get hg (i := 8) (j := 8) (d := 26) rfl
        clear hg
        simp only [putAll, gk0, gk1, gk2, gk3, gk4, gk5, gk6, gk7, gk8]
        clear gk0 gk1 gk2 gk3 gk4 gk5 gk6 gk7 gk8
        clear xs
        simp only [Act.put, List.setIfInBounds_toArray, List.set_cons_zero, List.set_cons_succ, List.drop_succ_cons, List.drop_zero]
        go_wp2
        go_roundw
        case rel => exact ⟨j + 1, by omega, by go_num, hxr.trans hx.drawn⟩
        case measure => simp [intOf]; omega
    · have hini : ¬ (j : Int) < (n : Int) := by omega
      go_wp2
      go_ret
      exact ⟨rfl, hxr⟩
set_option maxRecDepth 100000 in
set_option maxHeartbeats 1000000 in
theorem dsame_yes (R : Int) (A0 A1 B0 B1 : Option Addr) (n0 c0 n1 c1 b0 b1 : Nat) (l0 l1 L0 L1 : List St) (w : World) (h0 : RowV w A0 n0 c0 l0) (h1 : RowV w A1 n1 c1 l1) (g0 : RowV w B0 n0 b0 L0) (g1 : RowV w B1 n1 b1 L1) (k0 : l0.map St.key = L0.map St.key) (k1 : l1.map St.key = L1.map St.key) :
    Calls Try.prog 73 #[.agg #[.int .u64 R, .slice A0 n0 c0, .slice A1 n1 c1], .agg #[.int .u64 R, .slice B0 n0 b0, .slice B1 n1 b1]] w fun e w' => e = .returned (.bool true) ∧ Ext w w' := by
  go_enter Try.func73, Try.ntmps73
  go_upto_region 1 with (fail)
  obtain ⟨hW, hE, hO⟩ := two_boxes7 w (.cells #[.int .u64 R, .slice A0 n0 c0, .slice A1 n1 c1] 49) (.cells #[.int .u64 R, .slice B0 n0 b0, .slice B1 n1 b1] 49)
  generalize (w.alloc (.cells #[.int .u64 R, .slice A0 n0 c0, .slice A1 n1 c1] 49)).alloc (.cells #[.int .u64 R, .slice B0 n0 b0, .slice B1 n1 b1] 49) = W at *
  have e0 : W.cell? ⟨w.heap.size, 0, none⟩ = some (.int .u64 R) := by simp [World.cell?, hE]
  have e1 : W.cell? ⟨w.heap.size, 1, none⟩ = some (.slice A0 n0 c0) := by simp [World.cell?, hE]
  have e2 : W.cell? ⟨w.heap.size, 2, none⟩ = some (.slice A1 n1 c1) := by simp [World.cell?, hE]
  have d0 : W.cell? ⟨w.heap.size + 1, 0, none⟩ = some (.int .u64 R) := by simp [World.cell?, hO]
  have d1 : W.cell? ⟨w.heap.size + 1, 1, none⟩ = some (.slice B0 n0 b0) := by simp [World.cell?, hO]
  have d2 : W.cell? ⟨w.heap.size + 1, 2, none⟩ = some (.slice B1 n1 b1) := by simp [World.cell?, hO]
  go_wp2_with fail
  refine (all_yes A0 B0 n0 c0 b0 l0 L0 _ (h0.ext hW) (g0.ext hW) k0).mono ?_
  rintro e w1 ⟨rfl, hx1⟩
  replace hE := heap_ext hE hx1
  replace hO := heap_ext hO hx1
  replace hW := hW.trans hx1
  clear e0 e1 e2 d0 d1 d2
  have e0 : w1.cell? ⟨w.heap.size, 0, none⟩ = some (.int .u64 R) := by simp [World.cell?, hE]
  have e1 : w1.cell? ⟨w.heap.size, 1, none⟩ = some (.slice A0 n0 c0) := by simp [World.cell?, hE]
  have e2 : w1.cell? ⟨w.heap.size, 2, none⟩ = some (.slice A1 n1 c1) := by simp [World.cell?, hE]
  have d0 : w1.cell? ⟨w.heap.size + 1, 0, none⟩ = some (.int .u64 R) := by simp [World.cell?, hO]
  have d1 : w1.cell? ⟨w.heap.size + 1, 1, none⟩ = some (.slice B0 n0 b0) := by simp [World.cell?, hO]
  have d2 : w1.cell? ⟨w.heap.size + 1, 2, none⟩ = some (.slice B1 n1 b1) := by simp [World.cell?, hO]
  go_wp2_with fail
  refine (all_yes A1 B1 n1 c1 b1 l1 L1 _ (h1.ext hW) (g1.ext hW) k1).mono ?_
  rintro e w2 ⟨rfl, hx2⟩
  replace e0 := hx2.cell e0
  replace d0 := hx2.cell d0
  go_wp2
  go_ret
  exact ⟨rfl, hW.trans hx2⟩
/-- a disk's rows, told by keys -/
structure DkV (w : World) (v : Value) (R : Int) (n0 n1 : Nat) (l0 l1 : List St) : Prop where
  form : ∃ (A0 A1 : Option Addr) (c0 c1 : Nat), v = .agg #[.int .u64 R, .slice A0 n0 c0, .slice A1 n1 c1] ∧ RowV w A0 n0 c0 l0 ∧ RowV w A1 n1 c1 l1
theorem DkV.ext {w w' : World} {v : Value} {R : Int} {n0 n1 : Nat} {l0 l1 : List St} (h : DkV w v R n0 n1 l0 l1) (hx : Ext w w') : DkV w' v R n0 n1 l0 l1 := let ⟨A0, A1, c0, c1, e, h0, h1⟩ := h.form; ⟨A0, A1, c0, c1, e, h0.ext hx, h1.ext hx⟩
end Go.Proofs.Ytkdjmfaodojmfaa

namespace Go.Proofs.Ytkdjmfaodojmfaa
open Go.RowKit

/-! wealdref07: Few, Right. -/
def Few7E (n0 n1 : Nat) (e : Ending) : Prop := ∃ b : Bool, e = .returned (.bool b) ∧ (b = true → n0 ≤ 8 ∧ n1 ≤ 8)
set_option maxRecDepth 100000 in
set_option maxHeartbeats 4000000 in
theorem few7_any (R : Int) (A0 A1 : Option Addr) (n0 c0 n1 c1 : Nat) (l0 l1 : List St) (w : World) (h0 : RowV w A0 n0 c0 l0) (h1 : RowV w A1 n1 c1 l1) :
    Calls Try.prog 69 #[.agg #[.int .u64 R, .slice A0 n0 c0, .slice A1 n1 c1]] w fun e w' => Few7E n0 n1 e ∧ Ext w w' := by
  have hlen0 := h0.len
  have hlen1 := h1.len
  have hcap0 := Nat.le_trans h0.le h0.cap
  have hcap1 := Nat.le_trans h1.le h1.cap
  simp only [maxLen] at hcap0 hcap1
  have hW : Ext w (w.alloc (.cells #[.int .u64 R, .slice A0 n0 c0, .slice A1 n1 c1] 49)) := (Below.refl _ w).alloc (Nat.le_refl _) _
  have hE : (w.alloc (.cells #[.int .u64 R, .slice A0 n0 c0, .slice A1 n1 c1] 49)).heap[w.heap.size]? = some (.cells #[.int .u64 R, .slice A0 n0 c0, .slice A1 n1 c1] 49 (0, 0)) := heap_alloc_new w _
  go_enter Try.func69, Try.ntmps69
  go_upto_region 1 with (fail)
  generalize w.alloc (.cells #[.int .u64 R, .slice A0 n0 c0, .slice A1 n1 c1] 49) = W at *
  have e0 : W.cell? ⟨w.heap.size, 0, none⟩ = some (.int .u64 R) := by simp [World.cell?, hE]
  have e1 : W.cell? ⟨w.heap.size, 1, none⟩ = some (.slice A0 n0 c0) := by simp [World.cell?, hE]
  have e2 : W.cell? ⟨w.heap.size, 2, none⟩ = some (.slice A1 n1 c1) := by simp [World.cell?, hE]
  clear hE
  rcases (Decidable.em (n0 ≤ 8)).symm with h8 | h8
  · have h8' : (8 : Int) < (n0 : Int) := by omega
    go_wp2
    go_ret
    exact ⟨⟨false, rfl, fun h => by cases h⟩, hW⟩
  rcases (Decidable.em (n1 ≤ 8)).symm with h9 | h9
  · have h8' : ¬ (8 : Int) < (n0 : Int) := by omega
    have h9' : (8 : Int) < (n1 : Int) := by omega
    go_wp2
    go_ret
    exact ⟨⟨false, rfl, fun h => by cases h⟩, hW⟩
  have h8' : ¬ (8 : Int) < (n0 : Int) := by omega
  have h9' : ¬ (8 : Int) < (n1 : Int) := by omega
  go_wp2
  go_loopw [3, 4] (fun nv r wr => W = wr ∧ (∃ z : Int, nv = .int .i64 z) ∧ (r = .int .i64 0 ∨ r = .int .i64 1 ∨ r = .int .i64 2)) (fun _ r _ => 2 - (intOf r).toNat)
  case atStart => exact ⟨rfl, ⟨0, rfl⟩, .inl rfl⟩
  case round =>
    obtain ⟨rfl, ⟨z, rfl⟩, rfl | rfl | rfl⟩ := hrel
    · go_wp2
      go_loopw [3, 5] (fun nv i wr => W = wr ∧ (∃ z : Int, nv = .int .i64 z) ∧ ∃ j : Nat, j ≤ n0 ∧ i = .int .i64 j) (fun _ i _ => n0 - (intOf i).toNat)
      case atStart => exact ⟨rfl, ⟨z, rfl⟩, 0, Nat.zero_le _, rfl⟩
      case round =>
        obtain ⟨rfl, ⟨y, rfl⟩, j, hj, rfl⟩ := hrel
        rcases Nat.lt_or_ge j n0 with hjn | hjn
        · have hs : l0[j]? = some (l0[j]'(by omega)) := List.getElem?_eq_getElem _
          generalize (l0[j]'(by omega)) = s at *
          obtain ⟨a, rfl, a0, -, -⟩ := (h0.ext hW).at hs
          have hini : (j : Int) < (n0 : Int) := by omega
          go_wp2
          go_roundw
          case rel => exact ⟨by trivial, ⟨_, rfl⟩, j + 1, by omega, by go_num⟩
          case measure => simp [intOf]; omega
        · obtain rfl : j = n0 := by omega
          go_wp2
          go_roundw
          case rel => exact ⟨by trivial, ⟨_, rfl⟩, .inr (.inl (by go_num))⟩
          case measure => simp [intOf]
    · go_wp2
      go_loopw [3, 5] (fun nv i wr => W = wr ∧ (∃ z : Int, nv = .int .i64 z) ∧ ∃ j : Nat, j ≤ n1 ∧ i = .int .i64 j) (fun _ i _ => n1 - (intOf i).toNat)
      case atStart => exact ⟨rfl, ⟨z, rfl⟩, 0, Nat.zero_le _, rfl⟩
      case round =>
        obtain ⟨rfl, ⟨y, rfl⟩, j, hj, rfl⟩ := hrel
        rcases Nat.lt_or_ge j n1 with hjn | hjn
        · have hs : l1[j]? = some (l1[j]'(by omega)) := List.getElem?_eq_getElem _
          generalize (l1[j]'(by omega)) = s at *
          obtain ⟨a, rfl, a0, -, -⟩ := (h1.ext hW).at hs
          have hini : (j : Int) < (n1 : Int) := by omega
          go_wp2
          go_roundw
          case rel => exact ⟨by trivial, ⟨_, rfl⟩, j + 1, by omega, by go_num⟩
          case measure => simp [intOf]; omega
        · obtain rfl : j = n1 := by omega
          go_wp2
          go_roundw
          case rel => exact ⟨by trivial, ⟨_, rfl⟩, .inr (.inr (by go_num))⟩
          case measure => simp [intOf]
    · go_wp2
      go_ret
      exact ⟨⟨_, rfl, fun _ => ⟨h8, h9⟩⟩, hW⟩
set_option maxRecDepth 100000 in
set_option maxHeartbeats 4000000 in
theorem rright7_any (R : Int) (A0 A1 : Option Addr) (n0 c0 n1 c1 : Nat) (l0 l1 : List St) (w : World) (h0 : RowV w A0 n0 c0 l0) (h1 : RowV w A1 n1 c1 l1) :
    Calls Try.prog 72 #[.agg #[.int .u64 R, .slice A0 n0 c0, .slice A1 n1 c1]] w fun e w' => e = .returned (.bool (rightD n0 n1 l0 l1)) ∧ Ext w w' := by
  have hlen0 := h0.len
  have hlen1 := h1.len
  have hcap0 := Nat.le_trans h0.le h0.cap
  have hcap1 := Nat.le_trans h1.le h1.cap
  simp only [maxLen] at hcap0 hcap1
  obtain ⟨b, hb0⟩ : ∃ b, b = rightD n0 n1 l0 l1 := ⟨_, rfl⟩
  rw [← hb0]
  have hW : Ext w (w.alloc (.cells #[.int .u64 R, .slice A0 n0 c0, .slice A1 n1 c1] 49)) := (Below.refl _ w).alloc (Nat.le_refl _) _
  have hE : (w.alloc (.cells #[.int .u64 R, .slice A0 n0 c0, .slice A1 n1 c1] 49)).heap[w.heap.size]? = some (.cells #[.int .u64 R, .slice A0 n0 c0, .slice A1 n1 c1] 49 (0, 0)) := heap_alloc_new w _
  go_enter Try.func72, Try.ntmps72
  go_upto_region 1 with (fail)
  generalize w.alloc (.cells #[.int .u64 R, .slice A0 n0 c0, .slice A1 n1 c1] 49) = W at *
  have e0 : W.cell? ⟨w.heap.size, 0, none⟩ = some (.int .u64 R) := by simp [World.cell?, hE]
  have e1 : W.cell? ⟨w.heap.size, 1, none⟩ = some (.slice A0 n0 c0) := by simp [World.cell?, hE]
  have e2 : W.cell? ⟨w.heap.size, 2, none⟩ = some (.slice A1 n1 c1) := by simp [World.cell?, hE]
  clear hE
  by_cases hlo : n0 < 1
  · obtain rfl : b = false := by rw [hb0]; simp [rightD]; omega
    clear hb0
    have hlo' : (n0 : Int) < 1 := by omega
    go_wp2
    go_ret
    exact ⟨rfl, hW⟩
  have hlo' : ¬ (n0 : Int) < 1 := by omega
  by_cases hhi : 64 < n0
  · obtain rfl : b = false := by rw [hb0]; simp [rightD]; omega
    clear hb0
    have hhi' : (64 : Int) < (n0 : Int) := by omega
    go_wp2
    go_ret
    exact ⟨rfl, hW⟩
  have hhi' : ¬ (64 : Int) < (n0 : Int) := by omega
  rcases (Decidable.em (n1 = n0)).symm with hne | hne
  · obtain rfl : b = false := by rw [hb0]; simp [rightD, hne]
    clear hb0
    have hne' : ¬ (n1 : Int) = (n0 : Int) := by omega
    go_wp2
    go_ret
    exact ⟨rfl, hW⟩
  subst hne
  have hrd : rightD n1 n1 l0 l1 = (l0.all St.right && l1.all St.right) := by
    unfold rightD
    rw [decide_eq_true (by omega), Bool.true_and, List.all_append]
  rw [hrd] at hb0
  clear hrd
  go_wp2
  go_loopw [4] (fun r wr => Ext W wr ∧ (r = .int .i64 0 ∨ (r = .int .i64 1 ∧ l0.all St.right = true) ∨ (r = .int .i64 2 ∧ l0.all St.right = true ∧ l1.all St.right = true))) (fun r _ => 2 - (intOf r).toNat)
  case atStart => exact ⟨Ext.refl _, .inl rfl⟩
  case round =>
    obtain ⟨hxo, rfl | ⟨rfl, ha0⟩ | ⟨rfl, ha0, ha1⟩⟩ := hrel
    · go_wp2
      go_loopw [5] (fun i wr => ∃ j : Nat, j ≤ n1 ∧ i = .int .i64 j ∧ (∀ (k : Nat) (s : St), k < j → l0[k]? = some s → s.right = true) ∧ Ext W wr) (fun i _ => n1 - (intOf i).toNat)
      case atStart => exact ⟨0, Nat.zero_le _, rfl, fun k s hk => absurd hk (Nat.not_lt_zero _), hxo⟩
      case round =>
        obtain ⟨j, hj, rfl, hall, hx⟩ := hrel
        have d1 := hx.cell e1
        have d2 := hx.cell e2
        rcases Nat.lt_or_ge j n1 with hjn | hjn
        · have hs : l0[j]? = some (l0[j]'(by omega)) := List.getElem?_eq_getElem _
          generalize (l0[j]'(by omega)) = s at *
          obtain ⟨a, rfl, a0, a1, -⟩ := (h0.ext (hW.trans hx)).at hs
          have hini : (j : Int) < (n1 : Int) := by omega
          go_wp2_with fail
          refine (rright_any s.D s.q s.cd s.k _).mono ?_
          rintro e w3 ⟨rfl, hx3⟩
          have hx5 := hx.trans hx3
          cases hb : rightB s.k s.q with
          | true =>
            go_wp2
            go_roundw
            case rel =>
              refine ⟨j + 1, by omega, by go_num, fun k x hk hxk => ?_, hx5⟩
              rcases Nat.lt_or_ge k j with h | h
              · exact hall k x h hxk
              · obtain rfl : k = j := by omega
                rw [hs] at hxk
                cases hxk
                exact hb
            case measure => simp [intOf]; omega
          | false =>
            have hno : l0.all St.right = false := by
              rw [List.all_eq_false]
              exact ⟨s, List.mem_of_getElem? hs, by simp [St.right, hb]⟩
            obtain rfl : b = false := by rw [hb0, hno]; simp
            clear hb0
            go_wp2
            go_ret
            exact ⟨rfl, hW.trans hx5⟩
        · obtain rfl : j = n1 := by omega
          have hyes : l0.all St.right = true := by
            rw [List.all_eq_true]
            intro s hs
            obtain ⟨k, hk⟩ := List.getElem?_of_mem hs
            exact hall k s (by have := (List.getElem?_eq_some_iff.1 hk).1; omega) hk
          have hini : ¬ (j : Int) < (j : Int) := by omega
          go_wp2
          go_roundw
          case rel => exact ⟨hx, .inr (.inl ⟨by go_num, hyes⟩)⟩
          case measure => simp [intOf]
    · go_wp2
      go_loopw [5] (fun i wr => ∃ j : Nat, j ≤ n1 ∧ i = .int .i64 j ∧ (∀ (k : Nat) (s : St), k < j → l1[k]? = some s → s.right = true) ∧ Ext W wr) (fun i _ => n1 - (intOf i).toNat)
      case atStart => exact ⟨0, Nat.zero_le _, rfl, fun k s hk => absurd hk (Nat.not_lt_zero _), hxo⟩
      case round =>
        obtain ⟨j, hj, rfl, hall, hx⟩ := hrel
        have d1 := hx.cell e1
        have d2 := hx.cell e2
        rcases Nat.lt_or_ge j n1 with hjn | hjn
        · have hs : l1[j]? = some (l1[j]'(by omega)) := List.getElem?_eq_getElem _
          generalize (l1[j]'(by omega)) = s at *
          obtain ⟨a, rfl, a0, a1, -⟩ := (h1.ext (hW.trans hx)).at hs
          have hini : (j : Int) < (n1 : Int) := by omega
          go_wp2_with fail
          refine (rright_any s.D s.q s.cd s.k _).mono ?_
          rintro e w3 ⟨rfl, hx3⟩
          have hx5 := hx.trans hx3
          cases hb : rightB s.k s.q with
          | true =>
            go_wp2
            go_roundw
            case rel =>
              refine ⟨j + 1, by omega, by go_num, fun k x hk hxk => ?_, hx5⟩
              rcases Nat.lt_or_ge k j with h | h
              · exact hall k x h hxk
              · obtain rfl : k = j := by omega
                rw [hs] at hxk
                cases hxk
                exact hb
            case measure => simp [intOf]; omega
          | false =>
            have hno : l1.all St.right = false := by
              rw [List.all_eq_false]
              exact ⟨s, List.mem_of_getElem? hs, by simp [St.right, hb]⟩
            obtain rfl : b = false := by rw [hb0, hno]; simp
            clear hb0
            go_wp2
            go_ret
            exact ⟨rfl, hW.trans hx5⟩
        · obtain rfl : j = n1 := by omega
          have hyes : l1.all St.right = true := by
            rw [List.all_eq_true]
            intro s hs
            obtain ⟨k, hk⟩ := List.getElem?_of_mem hs
            exact hall k s (by have := (List.getElem?_eq_some_iff.1 hk).1; omega) hk
          have hini : ¬ (j : Int) < (j : Int) := by omega
          go_wp2
          go_roundw
          case rel => exact ⟨hx, .inr (.inr ⟨by go_num, ha0, hyes⟩)⟩
          case measure => simp [intOf]
    · obtain rfl : b = true := by rw [hb0, ha0, ha1]; rfl
      clear hb0
      go_wp2
      go_ret
      exact ⟨rfl, hW.trans hxo⟩
end Go.Proofs.Ytkdjmfaodojmfaa

namespace Go.Proofs.Ytkdjmfaodojmfaa
open Go.RowKit

/-! wealdref06.Append, wealdref06.Cut. -/
set_option maxRecDepth 100000 in
set_option maxHeartbeats 1000000 in
theorem rappend_any (A B : Option Addr) (n c m c2 : Nat) (k : Int) (d b : List UInt8) (w : World) (hA : BytesV w A n c d) (hB : BytesV w B m c2 b) (hs : n + m ≤ 65536) :
  Calls Try.prog 91 #[.agg #[.slice A n c, .int .i64 k], .slice B m c2] w fun e w' =>
   ∃ A' c', e = .returned (.agg #[.slice A' (n + m) c', .int .i64 k]) ∧ BytesV w' A' (n + m) c' (d ++ b) ∧ Ext w w' := by
 obtain ⟨i0, hi0, hz0, hz1, hz2⟩ := info_parts info_u8
 have hE : Ext w ((w.alloc (.cells #[.slice A n c, .int .i64 k] 118)).alloc (.cells #[.slice none 0 0, .int .i64 0] 118)) := ((Below.refl _ w).alloc (Nat.le_refl _) _).alloc (by simp) _
 generalize hW : ((w.alloc (.cells #[.slice A n c, .int .i64 k] 118)).alloc (.cells #[.slice none 0 0, .int .i64 0] 118)) = W at hE
 have HW := Lib.hid hW
 clear hW
 have hbox : ∀ wx, Ext W.drew wx → wx.cell? ⟨w.heap.size, 0, none⟩ = some (.slice A n c) ∧ wx.cell? ⟨w.heap.size, 1, none⟩ = some (.int .i64 k) ∧ wx.cell? ⟨w.heap.size + 1, 0, none⟩ = some (.slice none 0 0) ∧ wx.cell? ⟨w.heap.size + 1, 1, none⟩ = some (.int .i64 0) ∧ wx.frozen? ⟨w.heap.size + 1, 0, none⟩ = false ∧ wx.frozen? ⟨w.heap.size + 1, 1, none⟩ = false := fun wx hx =>
  ⟨hx.cell (by rw [← HW.out]; simp [go_sem]), hx.cell (by rw [← HW.out]; simp [go_sem]), hx.cell (by rw [← HW.out]; simp [go_sem]), hx.cell (by rw [← HW.out]; simp [go_sem]),
   by rw [hx.frozen (by rw [← HW.out]; simp)]; rw [← HW.out]; simp [go_sem], by rw [hx.frozen (by rw [← HW.out]; simp)]; rw [← HW.out]; simp [go_sem]⟩
 have hAx : ∀ wx, Ext W.drew wx → BytesV wx A n c d := fun wx hx => hA.ext (hE.trans hx.drawn)
 have hBx : ∀ wx, Ext W.drew wx → BytesV wx B m c2 b := fun wx hx => hB.ext (hE.trans hx.drawn)
 have hmax : n + m ≤ maxLen := by simp only [maxLen]; omega
 have hbs : ∀ W : World, (Instr.buildSlice 30 0 #[]).run Try.prog W = .ok (.slice (some ⟨W.heap.size, 0, none⟩) 0 0) (W.alloc (.cells #[] 5)) := fun _ => by kernel_rfl
 go_enter Try.func91, Try.ntmps91
 go_wp2
 rw [HW.out]
 refine' wp_region_sure ⟨((some 5, [], none) :: (some 6, [], none) :: (some 7, [1], none) :: (some 8, [0, 2], none) :: (some 9, [], none) :: (some 10, [3, 4, 3], none) :: (some 11, [], none) :: (some 12, [6], none) :: (some 13, [5, 7], none) :: (none, [8, 5, 0, 1, 2, 3, 4, 5, 6, 7, 8], none) :: []), (0 :: 0 :: 2 :: 7 :: 0 :: 31 :: 0 :: 64 :: 255 :: 511 :: []), (false :: true :: true :: false :: true :: false :: true :: true :: false :: []), [3, 5], 5⟩ 9 14 ((0, 5) :: (1, 6) :: (2, 7) :: (3, 8) :: (4, 9) :: (5, 10) :: (6, 11) :: (7, 12) :: (8, 13) :: []) ((1, 6) :: (2, 7) :: (4, 9) :: (5, 10) :: (6, 11) :: (7, 12) :: (8, 13) :: []) (Good.of (fun v w => w.ownsRow W.heap.size 5 1 v 0 []) (fun v w w' h hx => ownsRow_ext h hx) :: .det _ :: .det _ :: Good.of (fun v w => w.ownsRow W.heap.size 5 1 v n (bytesOf d)) (fun v w w' h hx => ownsRow_ext h hx) :: .det _ :: Good.of (fun v w => w.ownsRow W.heap.size 5 1 v (n + m) (bytesOf d ++ bytesOf b)) (fun v w w' h hx => ownsRow_ext h hx) :: .det _ :: .det _ :: Good.of (fun v w => ∃ u, v = .agg #[u, .int .i64 k] ∧ w.ownsRow W.heap.size 5 1 u (n + m) (bytesOf d ++ bytesOf b)) (fun v w w' h hx => let ⟨u, e, ho⟩ := h; ⟨u, e, ownsRow_ext ho hx⟩) :: []) (by kernel_rfl) (by kernel_rfl) (by kernel_rfl) rfl (by kernel_rfl) (by kernel_rfl) rfl ?hone ?hend
 case hone =>
  intro CS frS VS hCS ha hV
  have qs1 := slot_val (t := 1) ha rfl
  simp only [List.getElem_toArray, List.getElem_cons_succ, List.getElem_cons_zero] at qs1
  have qs2 := slot_val (t := 2) ha rfl
  simp only [List.getElem_toArray, List.getElem_cons_succ, List.getElem_cons_zero] at qs2
  have HCS := Lib.hid hCS
  have HVS := Lib.hid hV
  clear ha hCS hV
  refine sure_op (js := []) (ts := []) (gd := none) (place_at HVS.out (k := 0) rfl) (by rw [HCS.out]; kernel_rfl) ?_ ?_
  ·intro wx hx ρ hρ hs hf; have hρc := hρ.const; have hρf := hρ.func
   clear hs
   clear hf
   clear HCS HVS qs1 qs2
   refine run_plain ?_
   refine op_buildSlice rfl (by simpa using hbs wx) ?_
   exact ⟨Ext.refl _ |>.alloc (Nat.le_refl _) _, by simp, .inr ⟨wx.heap.size, 0, #[], rfl, hx.size, heap_alloc_new wx _, Nat.le_refl _, Nat.zero_le _, by simp, by simp⟩⟩
  refine sure_det (js := []) (ts := [2]) (gd := none) (place_at HVS.out (k := 1) rfl) (by rw [HCS.out]; kernel_rfl) ?_ ?_
  ·intro wx hx ρ hρ hs hf; have hρc := hρ.const; have hρf := hρ.func
   obtain ⟨fx2, -⟩ := hf; rw [qs2] at fx2
   clear hs
   clear HCS HVS qs1 qs2
   refine run_plain ?_
   unfold runs
   go_simp
   exact detK.mk
  refine sure_det (js := [(1, 6)]) (ts := []) (gd := none) (place_at HVS.out (k := 2) rfl) (by rw [HCS.out]; kernel_rfl) ?_ ?_
  ·intro wx hx ρ hρ hs hf; have hρc := hρ.const; have hρf := hρ.func; obtain ⟨sn1, -⟩ := hs; rw [place_at HVS.out (k := 1) rfl] at sn1; replace sn1 : ρ (.tmp 6) = _ := sn1
   clear hf
   clear HCS HVS qs1 qs2
   refine run_plain ?_
   obtain ⟨c0, c1, -⟩ := hbox wx hx
   unfold runs
   go_simp
   exact detK.mk
  refine sure_wild (js := [(0, 5), (2, 7)]) (ts := []) (gd := none) (place_at HVS.out (k := 3) rfl) (by rw [HCS.out]) (by rw [HCS.out]; kernel_rfl) ?_ ?_
  ·intro wx hx ρ hρ hs hf; have hρc := hρ.const; have hρf := hρ.func; obtain ⟨sn0, sn2, -⟩ := hs; rw [place_at HVS.out (k := 0) rfl] at sn0; replace sn0 : wx.ownsRow W.heap.size 5 1 (ρ (.tmp 5)) 0 [] := sn0; rw [place_at HVS.out (k := 2) rfl] at sn2; replace sn2 : ρ (.tmp 7) = _ := sn2
   clear hf
   clear HCS HVS qs1 qs2
   refine run_plain ?_
   obtain ⟨v', w', hr, ho, hb, hwr⟩ := run_append_own_any (P := Try.prog) (w := wx) W.heap.size 30 30 5 i0 _ 1 1 Try.underlying30 hi0 hz0 hz1 hz2 rfl (by decide) _ 0 [] sn0 A n c (bytesOf d) (by rw [bytesOf_length, hA.len]; omega) (hAx wx hx).cells hA.none0 (bytesOf_one d) (by omega) (by omega) hx.size
   refine op_append rfl rfl sn2 hr ?_
   simp only [Nat.zero_add, List.nil_append] at ho
   exact ⟨⟨hb, hwr⟩, ho⟩
  refine sure_det (js := []) (ts := [1]) (gd := none) (place_at HVS.out (k := 4) rfl) (by rw [HCS.out]; kernel_rfl) ?_ ?_
  ·intro wx hx ρ hρ hs hf; have hρc := hρ.const; have hρf := hρ.func
   obtain ⟨fx1, -⟩ := hf; rw [qs1] at fx1
   clear hs
   clear HCS HVS qs1 qs2
   refine run_plain ?_
   refine op_move rfl fx1 ?_
   exact detK.mk
  refine sure_wild (js := [(3, 8), (4, 9)]) (ts := []) (gd := none) (place_at HVS.out (k := 5) rfl) (by rw [HCS.out]) (by rw [HCS.out]; kernel_rfl) ?_ ?_
  ·intro wx hx ρ hρ hs hf; have hρc := hρ.const; have hρf := hρ.func; obtain ⟨sn3, sn4, -⟩ := hs; rw [place_at HVS.out (k := 3) rfl] at sn3; replace sn3 : wx.ownsRow W.heap.size 5 1 (ρ (.tmp 8)) n (bytesOf d) := sn3; rw [place_at HVS.out (k := 4) rfl] at sn4; replace sn4 : ρ (.tmp 9) = _ := sn4
   clear hf
   clear HCS HVS qs1 qs2
   refine run_plain ?_
   obtain ⟨v', w', hr, ho, hb, hwr⟩ := run_append_own_any (P := Try.prog) (w := wx) W.heap.size 30 30 5 i0 _ 1 1 Try.underlying30 hi0 hz0 hz1 hz2 rfl (by decide) _ n (bytesOf d) sn3 B m c2 (bytesOf b) (by rw [bytesOf_length, hB.len]; omega) (hBx wx hx).cells hB.none0 (bytesOf_one b) hmax (by omega) hx.size
   refine op_append rfl rfl sn4 hr ?_
   exact ⟨⟨hb, hwr⟩, ho⟩
  refine sure_det (js := []) (ts := [2]) (gd := none) (place_at HVS.out (k := 6) rfl) (by rw [HCS.out]; kernel_rfl) ?_ ?_
  ·intro wx hx ρ hρ hs hf; have hρc := hρ.const; have hρf := hρ.func
   obtain ⟨fx2, -⟩ := hf; rw [qs2] at fx2
   clear hs
   clear HCS HVS qs1 qs2
   refine run_plain ?_
   unfold runs
   go_simp
   exact detK.mk
  refine sure_det (js := [(6, 11)]) (ts := []) (gd := none) (place_at HVS.out (k := 7) rfl) (by rw [HCS.out]; kernel_rfl) ?_ ?_
  ·intro wx hx ρ hρ hs hf; have hρc := hρ.const; have hρf := hρ.func; obtain ⟨sn6, -⟩ := hs; rw [place_at HVS.out (k := 6) rfl] at sn6; replace sn6 : ρ (.tmp 11) = _ := sn6
   clear hf
   clear HCS HVS qs1 qs2
   refine run_plain ?_
   obtain ⟨c0, c1, -⟩ := hbox wx hx
   unfold runs
   go_simp
   exact detK.mk
  refine sure_op (js := [(5, 10), (7, 12)]) (ts := []) (gd := none) (place_at HVS.out (k := 8) rfl) (by rw [HCS.out]; kernel_rfl) ?_ ?_
  ·intro wx hx ρ hρ hs hf; have hρc := hρ.const; have hρf := hρ.func; obtain ⟨sn5, sn7, -⟩ := hs; rw [place_at HVS.out (k := 5) rfl] at sn5; replace sn5 : wx.ownsRow W.heap.size 5 1 (ρ (.tmp 10)) (n + m) (bytesOf d ++ bytesOf b) := sn5; rw [place_at HVS.out (k := 7) rfl] at sn7; replace sn7 : ρ (.tmp 12) = _ := sn7
   clear hf
   clear HCS HVS qs1 qs2
   refine run_plain ?_
   have hu : ∃ A c, ρ (.tmp 10) = .slice A (n + m) c := (let ⟨A, c, e, _⟩ := own_form sn5; ⟨A, c, e⟩)
   obtain ⟨A5, c5, e5⟩ := hu
   unfold runs
   go_simp
   exact ⟨Ext.refl _, _, rfl, by rw [← e5]; exact sn5⟩
  exact trivial
 case hend =>
  intro xs wx hx hg
  have gk1 : xs 1 = _ := goods_get hg (i := 0) (j := 1) (d := 6) rfl
  have gk2 : xs 2 = _ := goods_get hg (i := 1) (j := 2) (d := 7) rfl
  have gk4 : xs 4 = _ := goods_get hg (i := 2) (j := 4) (d := 9) rfl
  have gk5 : wx.ownsRow W.heap.size 5 1 (xs 5) (n + m) (bytesOf d ++ bytesOf b) := goods_get hg (i := 3) (j := 5) (d := 10) rfl
  have gk6 : xs 6 = _ := goods_get hg (i := 4) (j := 6) (d := 11) rfl
  have gk7 : xs 7 = _ := goods_get hg (i := 5) (j := 7) (d := 12) rfl
  have gk8 : ∃ u, (xs 8) = .agg #[u, .int .i64 k] ∧ wx.ownsRow W.heap.size 5 1 u (n + m) (bytesOf d ++ bytesOf b) := goods_get hg (i := 6) (j := 8) (d := 13) rfl
  clear hg
  simp only [putAll, gk1, gk2, gk4, gk6, gk7]
  clear gk1 gk2 gk4 gk6 gk7
  generalize xs 0 = vx0
  generalize xs 3 = vx3
  generalize xs 5 = vx5 at gk5 ⊢
  generalize xs 8 = vx8 at gk8 ⊢
  clear xs
  simp only [Act.put, List.setIfInBounds_toArray, List.set_cons_zero, List.set_cons_succ, List.drop_succ_cons, List.drop_zero]
  obtain ⟨u, eu, hu⟩ := gk8
  subst eu
  obtain ⟨-, -, c2, c3, f2, f3⟩ := hbox wx hx
  obtain ⟨A5, c5, rfl, h1, h2, h3, h4, h5⟩ := own_form hu
  go_wp2
  have hlt : w.heap.size + 1 < W.heap.size := by rw [← HW.out]; simp
  refine bodyPost_ret (v := .agg #[.slice A5 (n + m) c5, .int .i64 k]) (by simp [results, Try.results91, go_sem, c2, c3]) rfl ⟨A5, c5, rfl, ⟨by rw [List.length_append, hA.len, hB.len], h1, h2, h3, ?_⟩, ?_⟩
  ·rw [bytesOf_append]
   exact (h4.set (fun _ a ha => by have := h5 a ha; simp; omega) _).set (fun _ a ha => by have := h5 a ha; simp; omega) _
  ·exact ((hE.trans hx.drawn).setCell (by simp) _).setCell (by simp) _
theorem cutN_test {n j : Nat} {k more : Int} (h0 : 0 ≤ k) (h1 : k ≤ n) (hj : j < n) : j < cutN n k more ↔ ((j : Int) < k ∨ (j : Int) - k < more) := by unfold cutN; omega
theorem cells_one {w : World} {a : Addr} {v : Value} (h : w.cell? a = some v) : Cells w (some a) [v] := fun _ => ⟨a, rfl, fun j u hu => by
 match j, hu with
 | 0, hu => simp at hu; subst hu; simpa [Addr.add] using h⟩
theorem bytesOf_take_succ {d : List UInt8} {j : Nat} (hj : j < d.length) : bytesOf (d.take (j + 1)) = bytesOf (d.take j) ++ [.int .u8 ((d[j]'hj).toNat : Int)] := by
 rw [List.take_succ_eq_append_getElem hj, bytesOf_append]; rfl
theorem bytesOf_at {d : List UInt8} {j : Nat} (hj : j < d.length) : (bytesOf d)[j]? = some (.int .u8 ((d[j]'hj).toNat : Int)) := by
 simp [bytesOf, hj]
/-- bytes of the call's own lie in a block of bytes -/
theorem own_tag {w : World} {base : Nat} {e : TypeId} {A : Option Addr} {n c n' : Nat} {xs : List Value} (h : w.ownsRow base e 1 (.slice A n c) n' xs) (hx : xs ≠ []) : ∃ a cur, A = some a ∧ base ≤ a.block ∧ w.heap[a.block]? = some (.cells cur e (0, 0)) := by
 rcases h.2 with ⟨_, rfl⟩ | ⟨g, cap, cur, h3, h4, h5, _⟩
 ·exact absurd (List.eq_nil_of_length_eq_zero (by simpa using h.1)) hx
 ·exact ⟨⟨g, 0, none⟩, cur, (Value.slice.inj h3).1, h4, h5⟩
set_option maxRecDepth 100000 in
set_option maxHeartbeats 1000000 in
theorem rcut_new (A : Option Addr) (n c : Nat) (k more : Int) (d : List UInt8) (w : World) (hA : BytesV w A n c d) (hn : n ≤ 65536) (h0 : 0 ≤ k) (h1 : k ≤ n) :
  Calls Try.prog 95 #[.agg #[.slice A n c, .int .i64 k], .int .i64 more] w fun e w' =>
   ∃ A' c', e = .returned (.agg #[.slice A' (cutN n k more) c', .int .i64 (cutN n k more)]) ∧ BytesV w' A' (cutN n k more) c' (d.take (cutN n k more)) ∧ (d.take (cutN n k more) ≠ [] → ∃ a cur, A' = some a ∧ w'.heap[a.block]? = some (.cells cur 5 (0, 0))) ∧ Ext w w' := by
 obtain ⟨i0, hi0, hz0, hz1, hz2⟩ := info_parts info_u8
 have hN := cutN_le (more := more) h0 h1
 have htest := fun j hj => @cutN_test n j k more h0 h1 hj
 generalize hNN : cutN n k more = N at *
 have HNN := Lib.hid hNN
 clear hNN
 have hE : Ext w ((w.alloc (.cells #[.slice A n c, .int .i64 k] 118)).alloc (.cells #[.slice none 0 0, .int .i64 0] 118)) := ((Below.refl _ w).alloc (Nat.le_refl _) _).alloc (by simp) _
 generalize hW : ((w.alloc (.cells #[.slice A n c, .int .i64 k] 118)).alloc (.cells #[.slice none 0 0, .int .i64 0] 118)) = W at hE
 have HW := Lib.hid hW
 clear hW
 have hbox : ∀ wx, Ext W wx → wx.cell? ⟨w.heap.size, 0, none⟩ = some (.slice A n c) ∧ wx.cell? ⟨w.heap.size, 1, none⟩ = some (.int .i64 k) ∧ wx.cell? ⟨w.heap.size + 1, 0, none⟩ = some (.slice none 0 0) ∧ wx.cell? ⟨w.heap.size + 1, 1, none⟩ = some (.int .i64 0) ∧ wx.frozen? ⟨w.heap.size + 1, 0, none⟩ = false ∧ wx.frozen? ⟨w.heap.size + 1, 1, none⟩ = false := fun wx hx =>
  ⟨hx.cell (by rw [← HW.out]; simp [go_sem]), hx.cell (by rw [← HW.out]; simp [go_sem]), hx.cell (by rw [← HW.out]; simp [go_sem]), hx.cell (by rw [← HW.out]; simp [go_sem]),
   by rw [hx.frozen (by rw [← HW.out]; simp)]; rw [← HW.out]; simp [go_sem], by rw [hx.frozen (by rw [← HW.out]; simp)]; rw [← HW.out]; simp [go_sem]⟩
 have hlt : w.heap.size + 1 < W.heap.size := by rw [← HW.out]; simp
 have Hlen := Lib.hid hA.len
 go_enter Try.func95, Try.ntmps95
 go_wp2
 rw [HW.out]
 go_loopw [5, 6] (fun out i wr => ∃ j : Nat, j ≤ n ∧ i = .int .i64 j ∧ wr.ownsRow W.heap.size 5 1 out (min j N) (bytesOf (d.take (min j N))) ∧ Ext W wr) (fun _ i _ => n - (intOf i).toNat)
 case atStart => exact ⟨0, Nat.zero_le _, rfl, by rw [Nat.zero_min]; exact World.ownsRow_nil _ _ _ _, Ext.refl _⟩
 case round =>
  obtain ⟨j, hj, rfl, hown, hx⟩ := hrel
  obtain ⟨c0, c1, c2, c3, f2, f3⟩ := hbox wr hx
  rcases Nat.lt_or_ge j n with hjn | hjn
  ·have hAj := hA.ext (hE.trans hx)
   by_cases hjN : j < N
   ·have hmin : min j N = j := by omega
    rw [hmin] at hown
    have hdl : j < d.length := by rw [Hlen.out]; omega
    obtain ⟨a, rfl, hcell⟩ := hAj.cells (fun e => by rw [← bytesOf_length, e] at hdl; simp at hdl)
    have hc := hcell j _ (bytesOf_at hdl)
    have H1 := Lib.hid hmin
    have HT := Lib.hid ((htest j hjn).1 hjN)
    clear hmin hcell hAj htest
    have hstep : ∀ (v' : Value) (w' : World), w'.ownsRow W.heap.size 5 1 v' (j + 1) (bytesOf (d.take j) ++ [.int .u8 ((d[j]'hdl).toNat : Int)]) → w'.ownsRow W.heap.size 5 1 v' (min (j + 1) N) (bytesOf (d.take (min (j + 1) N))) := fun v' w' h => by
     rw [show min (j + 1) N = j + 1 by omega, bytesOf_take_succ hdl]; exact h
    have hj1 : j + 1 ≤ maxLen := by simp only [maxLen]; omega
    rcases Int.lt_or_le (j : Int) k with hjk | hjk
    ·go_wp2_with (at_builtin; refine wpList_append_own_any rfl (.tmp 26) (.tmp 32) _ _ rfl W.heap.size i0 _ 1 1 Try.underlying30 hi0 hz0 hz1 hz2 rfl (by decide) _ j (bytesOf (d.take j)) rfl (hown.alloc _) (some ⟨wr.heap.size, 0, none⟩) 1 1 [.int .u8 ((d[j]'hdl).toNat : Int)] rfl rfl (cells_one (by simp [go_sem])) (by intro h; cases h) (by intro u hu; simp at hu; subst hu; rfl) hj1 (by omega) (by have := hx.size; simp; omega) ?_; intro v' w' hown' hb')
     go_roundw
     case rel => exact ⟨j + 1, by omega, by go_num, hstep _ _ hown', (Below.alloc hx hx.size _).trans hb'⟩
     case measure => simp [intOf]; omega
    ·have hm : (j : Int) - k < more := by rcases HT.out with h | h <;> omega
     go_wp2_with (at_builtin; refine wpList_append_own_any rfl (.tmp 26) (.tmp 32) _ _ rfl W.heap.size i0 _ 1 1 Try.underlying30 hi0 hz0 hz1 hz2 rfl (by decide) _ j (bytesOf (d.take j)) rfl (hown.alloc _) (some ⟨wr.heap.size, 0, none⟩) 1 1 [.int .u8 ((d[j]'hdl).toNat : Int)] rfl rfl (cells_one (by simp [go_sem])) (by intro h; cases h) (by intro u hu; simp at hu; subst hu; rfl) hj1 (by omega) (by have := hx.size; simp; omega) ?_; intro v' w' hown' hb')
     go_roundw
     case rel => exact ⟨j + 1, by omega, by go_num, hstep _ _ hown', (Below.alloc hx hx.size _).trans hb'⟩
     case measure => simp [intOf]; omega
   ·have hk : ¬ (j : Int) < k := fun h => hjN ((htest j hjn).2 (.inl h))
    have hm : ¬ (j : Int) - k < more := fun h => hjN ((htest j hjn).2 (.inr h))
    have hmin : min (j + 1) N = min j N := by omega
    have H1 := Lib.hid hmin
    clear hmin hAj htest
    go_wp2
    go_roundw
    case rel => exact ⟨j + 1, by omega, by go_num, by rw [H1.out]; exact hown, hx⟩
    case measure => simp [intOf]; omega
  ·have hmin : min j N = N := by omega
   rw [hmin] at hown
   obtain ⟨A5, c5, rfl, g1, g2, g3, g4, g5⟩ := own_form hown
   have htag := own_tag hown
   clear hmin htest
   go_wp2
   refine bodyPost_ret (v := .agg #[.slice A5 N c5, .int .i64 N]) (by simp [results, Try.results95, go_sem, c2, c3]) rfl ⟨A5, c5, rfl, ⟨by rw [List.length_take, Hlen.out]; omega, g1, g2, g3, ?_⟩, fun hne => ?_, ?_⟩
   ·exact (g4.set (fun _ a ha => by have := g5 a ha; simp; omega) _).set (fun _ a ha => by have := g5 a ha; simp; omega) _
   ·obtain ⟨a, cur, rfl, hb, hh⟩ := htag (fun e => hne (by simpa [bytesOf] using e))
    refine ⟨a, cur, rfl, ?_⟩
    rw [Below.heap_setCell _ _ _ _ (by simp; omega), Below.heap_setCell _ _ _ _ (by simp; omega)]
    exact hh
   ·exact ((hE.trans hx).setCell (by simp) _).setCell (by simp) _
theorem rcut_any (A : Option Addr) (n c : Nat) (k more : Int) (d : List UInt8) (w : World) (hA : BytesV w A n c d) (hn : n ≤ 65536) (h0 : 0 ≤ k) (h1 : k ≤ n) :
  Calls Try.prog 95 #[.agg #[.slice A n c, .int .i64 k], .int .i64 more] w fun e w' =>
   ∃ A' c', e = .returned (.agg #[.slice A' (cutN n k more) c', .int .i64 (cutN n k more)]) ∧ BytesV w' A' (cutN n k more) c' (d.take (cutN n k more)) ∧ Ext w w' :=
 (rcut_new A n c k more d w hA hn h0 h1).mono fun _ _ ⟨A', c', e, hb, _, hx⟩ => ⟨A', c', e, hb, hx⟩
end Go.Proofs.Ytkdjmfaodojmfaa
