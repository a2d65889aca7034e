import Derived.Test.YtennnhfaghdeoaaDisk
import Derived.Test.YtennnhfaghdeoaaSureB
import Derived.Lib.Hide
namespace Go.Proofs.Ytennnhfaghdeoaa
open Go.RowKit

/-! disk.turn: one stream is turned. -/
theorem two_boxes7 (w : World) (o0 o1 : Obj) :
  Ext w ((w.alloc o0).alloc o1) ∧ ((w.alloc o0).alloc o1).heap[w.heap.size]? = some o0 ∧ ((w.alloc o0).alloc o1).heap[w.heap.size + 1]? = some o1 := by
 refine ⟨(((Below.refl _ w).alloc (Nat.le_refl _) _).alloc (by simp) _), ?_, ?_⟩
 ·rw [Below.heap_alloc _ _ _ (by first | (simp; omega) | simp)]
  simpa using heap_alloc_new w o0
 ·simpa using heap_alloc_new (w.alloc o0) o1
theorem heap_set_congr {w w' : World} {g i : Nat} {u : Value} (h : w.heap[g]? = w'.heap[g]?) : (w.setCell ⟨g, i, none⟩ u).heap[g]? = (w'.setCell ⟨g, i, none⟩ u).heap[g]? := by
 simp [World.setCell, Array.getElem?_modify, h]
theorem isB_row0 {i n0 n1 : Nat} (h : i < n0) : isB 0 i n0 n1 = true := by simp [isB, h]
theorem isB_row1 {i n0 n1 : Nat} (h : i < n1) : isB 1 i n0 n1 = true := by simp [isB, h]
set_option maxRecDepth 100000 in
set_option maxHeartbeats 1000000 in
/-- no such stream -/
theorem turn_no (R : Int) (A0 A1 : Option Addr) (n0 c0 n1 c1 : Nat) (row i : Int) (f : FuncId) (caps : Array Value) (w : World) (hno : isB row i n0 n1 = false) :
  Calls Try.prog 91 #[.agg #[.int .u64 R, .slice A0 n0 c0, .slice A1 n1 c1], .int .i64 row, .int .i64 i, .func (.func f) #[] caps] w fun e w' => e = .returned (.tuple #[.agg #[.int .u64 R, .slice A0 n0 c0, .slice A1 n1 c1], .int .i64 1]) ∧ Ext w w' := by
 go_enter Try.func91, Try.ntmps91
 go_upto_region 1 with (fail)
 obtain ⟨hW, hE, hO⟩ := two_boxes7 w (.cells #[.int .u64 R, .slice A0 n0 c0, .slice A1 n1 c1] 30) (.cells #[.int .u64 0, .slice none 0 0, .slice none 0 0] 30)
 generalize (w.alloc (.cells #[.int .u64 R, .slice A0 n0 c0, .slice A1 n1 c1] 30)).alloc (.cells #[.int .u64 0, .slice none 0 0, .slice none 0 0] 30) = W at *
 have e0 : W.cell? ⟨w.heap.size, 0, none⟩ = some (.int .u64 R) := by simp [World.cell?, hE]
 have e1 : W.cell? ⟨w.heap.size, 1, none⟩ = some (.slice A0 n0 c0) := by simp [World.cell?, hE]
 have e2 : W.cell? ⟨w.heap.size, 2, none⟩ = some (.slice A1 n1 c1) := by simp [World.cell?, hE]
 go_wp2_with fail
 refine (is_any7 R A0 A1 n0 c0 n1 c1 row i _).mono ?_
 rw [hno]
 rintro e w1 ⟨rfl, hx1⟩
 replace hE := heap_ext hE hx1
 replace hO := heap_ext hO hx1
 replace hW := hW.trans hx1
 clear e0 e1 e2 hx1
 have e0 : w1.cell? ⟨w.heap.size, 0, none⟩ = some (.int .u64 R) := by simp [World.cell?, hE]
 have e1 : w1.cell? ⟨w.heap.size, 1, none⟩ = some (.slice A0 n0 c0) := by simp [World.cell?, hE]
 have e2 : w1.cell? ⟨w.heap.size, 2, none⟩ = some (.slice A1 n1 c1) := by simp [World.cell?, hE]
 have d0 : w1.cell? ⟨w.heap.size + 1, 0, none⟩ = some (.int .u64 0) := by simp [World.cell?, hO]
 have df0 : w1.frozen? ⟨w.heap.size + 1, 0, none⟩ = false := by simp [World.frozen?, hO]
 have d1 : w1.cell? ⟨w.heap.size + 1, 1, none⟩ = some (.slice none 0 0) := by simp [World.cell?, hO]
 have df1 : w1.frozen? ⟨w.heap.size + 1, 1, none⟩ = false := by simp [World.frozen?, hO]
 have d2 : w1.cell? ⟨w.heap.size + 1, 2, none⟩ = some (.slice none 0 0) := by simp [World.cell?, hO]
 have df2 : w1.frozen? ⟨w.heap.size + 1, 2, none⟩ = false := by simp [World.frozen?, hO]
 clear hE hO
 go_wp2
 refine bodyPost_ret (v := .tuple #[.agg #[.int .u64 R, .slice A0 n0 c0, .slice A1 n1 c1], .int .i64 1]) (by simp [results, Try.results91, go_sem, d0, d1, d2]) rfl ⟨rfl, ?_⟩
 exact setAll_ext (g := w.heap.size + 1) (vs := [.int .u64 R, .slice A0 n0 c0, .slice A1 n1 c1]) (i := 0) hW (by omega)
set_option maxRecDepth 100000 in
set_option maxHeartbeats 4000000 in
theorem turn_row0 (R : Int) (A0 A1 : Option Addr) (n0 c0 n1 c1 : Nat) (i : Nat) (l : List St) (s : St) (f : FuncId) (caps : Array Value) (G : St → Prop) (w : World) (hrow : RowV w A0 n0 c0 l) (hs : l[i]? = some s) (hn0 : n0 ≤ 65536) (hn1 : n1 ≤ 65536)
  (hcall : ∀ (args : Array Value) (w : World), (callFunc f args).run Try.prog w = .ok (.enter f args) w)
  (hby : ∀ W, Ext w W → Calls Try.prog f (#[.agg #[.slice s.D s.q s.cd, .int .i64 s.k]] ++ caps) W fun e W' => ∃ s' : St, e = .returned (.agg #[.slice s'.D s'.q s'.cd, .int .i64 s'.k]) ∧ G s' ∧ StOK W' s' ∧ (s'.d ≠ [] → ∀ a, s'.D = some a → a.block < w.heap.size ∨ W.heap.size ≤ a.block) ∧ Ext W W') :
  Calls Try.prog 91 #[.agg #[.int .u64 R, .slice A0 n0 c0, .slice A1 n1 c1], .int .i64 0, .int .i64 i, .func (.func f) #[] caps] w fun e w' =>
   ∃ (A' : Option Addr) (c' : Nat) (s' : St), e = .returned (.tuple #[.agg #[.int .u64 R, .slice A' n0 c', .slice A1 n1 c1], .int .i64 0]) ∧ RowV w' A' n0 c' (l.set i s') ∧ G s' ∧ Ext w w' := by
 have hil : i < l.length := (List.getElem?_eq_some_iff.1 hs).1
 have hlen := hrow.len
 have hin : i < n0 := by omega
 have hini : (i : Int) < (n0 : Int) := by omega
 go_enter Try.func91, Try.ntmps91
 go_upto_region 1 with (fail)
 obtain ⟨hW, hE, hO⟩ := two_boxes7 w (.cells #[.int .u64 R, .slice A0 n0 c0, .slice A1 n1 c1] 30) (.cells #[.int .u64 0, .slice none 0 0, .slice none 0 0] 30)
 generalize (w.alloc (.cells #[.int .u64 R, .slice A0 n0 c0, .slice A1 n1 c1] 30)).alloc (.cells #[.int .u64 0, .slice none 0 0, .slice none 0 0] 30) = W at *
 have e0 : W.cell? ⟨w.heap.size, 0, none⟩ = some (.int .u64 R) := by simp [World.cell?, hE]
 have e1 : W.cell? ⟨w.heap.size, 1, none⟩ = some (.slice A0 n0 c0) := by simp [World.cell?, hE]
 have e2 : W.cell? ⟨w.heap.size, 2, none⟩ = some (.slice A1 n1 c1) := by simp [World.cell?, hE]
 go_wp2_with fail
 refine (is_any7 R A0 A1 n0 c0 n1 c1 0 i _).mono ?_
 rw [isB_row0 hin]
 rintro e w1 ⟨rfl, hx1⟩
 replace hE := heap_ext hE hx1
 replace hO := heap_ext hO hx1
 replace hW := hW.trans hx1
 clear e0 e1 e2 hx1
 have e0 : w1.cell? ⟨w.heap.size, 0, none⟩ = some (.int .u64 R) := by simp [World.cell?, hE]
 have e1 : w1.cell? ⟨w.heap.size, 1, none⟩ = some (.slice A0 n0 c0) := by simp [World.cell?, hE]
 have e2 : w1.cell? ⟨w.heap.size, 2, none⟩ = some (.slice A1 n1 c1) := by simp [World.cell?, hE]
 have hsz1 : w.heap.size + 1 < w1.heap.size := (Array.getElem?_eq_some_iff.1 hO).1
 go_wp2_with fail
 refine (clone_row A0 n0 c0 l _ (hrow.ext hW) (by omega)).mono ?_
 rintro e w2 ⟨v, rfl, hown, hx2⟩
 obtain ⟨gc, cc, rfl, hgb, hglt, hncc, -, -, -, -, -⟩ := hown.at hs
 replace hE := heap_ext hE hx2
 replace hO := heap_ext hO hx2
 replace hW := hW.trans hx2
 clear e0 e1 e2 hx2
 have e0 : w2.cell? ⟨w.heap.size, 0, none⟩ = some (.int .u64 R) := by simp [World.cell?, hE]
 have ef0 : w2.frozen? ⟨w.heap.size, 0, none⟩ = false := by simp [World.frozen?, hE]
 have e1 : w2.cell? ⟨w.heap.size, 1, none⟩ = some (.slice A0 n0 c0) := by simp [World.cell?, hE]
 have ef1 : w2.frozen? ⟨w.heap.size, 1, none⟩ = false := by simp [World.frozen?, hE]
 have e2 : w2.cell? ⟨w.heap.size, 2, none⟩ = some (.slice A1 n1 c1) := by simp [World.cell?, hE]
 have ef2 : w2.frozen? ⟨w.heap.size, 2, none⟩ = false := by simp [World.frozen?, hE]
 go_upto_region 4 with (fail)
 have hE3 : (w2.setCell ⟨w.heap.size, 1, none⟩ (.slice (some ⟨gc, 0, none⟩) n0 cc)).heap[w.heap.size]? = some (.cells #[.int .u64 R, .slice (some ⟨gc, 0, none⟩) n0 cc, .slice A1 n1 c1] 30 (0, 0)) := heap_setCell_at hE
 have hO3 : (w2.setCell ⟨w.heap.size, 1, none⟩ (.slice (some ⟨gc, 0, none⟩) n0 cc)).heap[w.heap.size + 1]? = _ := (Below.heap_setCell _ _ _ _ (by simp)).trans hO
 have hW3 : Ext w (w2.setCell ⟨w.heap.size, 1, none⟩ (.slice (some ⟨gc, 0, none⟩) n0 cc)) := hW.setCell (Nat.le_refl _) _
 have hown3 : OwnR (w2.setCell ⟨w.heap.size, 1, none⟩ (.slice (some ⟨gc, 0, none⟩) n0 cc)) w1.heap.size (.slice (some ⟨gc, 0, none⟩) n0 cc) n0 l :=
  hown.other (by simp; omega) fun x hx => (hrow.ok x hx).ext hW3
 clear e0 e1 e2 ef0 ef1 ef2 hE hO hW hown
 generalize w2.setCell ⟨w.heap.size, 1, none⟩ (.slice (some ⟨gc, 0, none⟩) n0 cc) = W3 at *
 obtain ⟨g', c', hgc, -, hgl3', -, s0, s1, f0, f1, hset⟩ := hown3.at hs
 obtain ⟨rfl, rfl⟩ : gc = g' ∧ cc = c' := by simpa using hgc
 clear hgc
 have hgl3 : gc < W3.heap.size := hgl3'
 have hw0 : w.heap.size + 1 < gc := by omega
 have ne1 : ¬ gc = w.heap.size := by omega
 have ne2 : ¬ gc = w.heap.size + 1 := by omega
 have ne3 : ¬ w.heap.size = gc := by omega
 have ne4 : ¬ w.heap.size + 1 = gc := by omega
 have hX : ∀ wx, Ext W3 wx → wx.cell? ⟨w.heap.size, 1, none⟩ = some (.slice (some ⟨gc, 0, none⟩) n0 cc) ∧ wx.cell? ⟨gc, i * 2, none⟩ = some (.slice s.D s.q s.cd) ∧ wx.cell? ⟨gc, i * 2 + 1, none⟩ = some (.int .i64 s.k) ∧ Ext w wx := fun wx hx =>
  ⟨hx.cell (by simp [World.cell?, hE3]), hx.cell s0, hx.cell s1, hW3.trans hx⟩
 obtain ⟨gE, hgE⟩ : ∃ g, g = w.heap.size := ⟨_, rfl⟩
 refine' SB.wp_region_sure (gx := []) (Pn := fun _ _ => False) ⟨((some 24, [], none) :: (some 25, [], none) :: (some 26, [1, 0], none) :: (some 27, [2], none) :: (some 28, [], none) :: (some 29, [], none) :: (some 30, [], none) :: (some 31, [], none) :: (some 32, [7, 6], none) :: (some 33, [8], none) :: (some 34, [], none) :: (some 35, [9, 10], none) :: (some 36, [11], none) :: (some 37, [5, 12], none) :: (some 38, [3, 4, 0, 1, 2, 3, 4, 5, 6, 7, 8, 9, 10, 11, 12, 13], none) :: (none, [14, 13, 13, 0, 1, 2, 3, 4, 5, 6, 7, 8, 9, 10, 11, 12, 13], none) :: []), (0 :: 0 :: 3 :: 7 :: 0 :: 0 :: 0 :: 0 :: 192 :: 448 :: 0 :: 1984 :: 4032 :: 8160 :: 16383 :: 32767 :: []), (none :: none :: none :: none :: none :: none :: none :: none :: none :: none :: none :: none :: none :: some [] :: []), []⟩ 14 40 ((0, 24) :: (1, 25) :: (2, 26) :: (3, 27) :: (4, 28) :: (5, 29) :: (6, 30) :: (7, 31) :: (8, 32) :: (9, 33) :: (10, 34) :: (11, 35) :: (12, 36) :: (13, 37) :: []) ((0, 24) :: (1, 25) :: (2, 26) :: (3, 27) :: (4, 28) :: (5, 29) :: (6, 30) :: (7, 31) :: (8, 32) :: (9, 33) :: (10, 34) :: (11, 35) :: (12, 36) :: (13, 37) :: []) (.det _ :: .det _ :: .det _ :: .det _ :: .det _ :: .det _ :: .det _ :: .det _ :: .det _ :: .det _ :: .det _ :: .det _ :: .det _ :: SB.Good.of (fun v w => ∃ s' : St, v = .agg #[.slice s'.D s'.q s'.cd, .int .i64 s'.k] ∧ G s' ∧ StOK w s' ∧ (s'.d ≠ [] → ∀ a, s'.D = some a → a.block ≠ gc ∧ a.block ≠ gE ∧ a.block ≠ gE + 1)) (fun v w w' h hx => let ⟨s', e, hg, ho, hf⟩ := h; ⟨s', e, hg, ho.ext hx, hf⟩) :: []) (by kernel_rfl) ?hpan (by kernel_rfl) (by kernel_rfl) rfl (by kernel_rfl) (by kernel_rfl) rfl ?hone ?hend
 case hpan =>
  intro _ _ _ _ h; exact h.elim
 case hone =>
  intro CS frS VS hCS ha hV
  have qs1 := slot_val (t := 1) ha rfl
  simp only [List.getElem_toArray, List.getElem_cons_succ, List.getElem_cons_zero] at qs1
  have qs2 := slot_val (t := 2) ha rfl
  simp only [List.getElem_toArray, List.getElem_cons_succ, List.getElem_cons_zero] at qs2
  have qs3 := slot_val (t := 3) ha rfl
  simp only [List.getElem_toArray, List.getElem_cons_succ, List.getElem_cons_zero] at qs3
  have qs4 := slot_val (t := 4) ha rfl
  simp only [List.getElem_toArray, List.getElem_cons_succ, List.getElem_cons_zero] at qs4
  have HCS := Lib.hid hCS
  have HVS := Lib.hid hV
  clear ha hCS hV
  refine SB.sure_det (js := []) (ts := [1]) (gd := none) (bs := []) (SB.place_at HVS.out (k := 0) rfl) (by rw [HCS.out]; kernel_rfl) (by rw [HCS.out]; kernel_rfl) ?_ ?_
  ·intro wx hx ρ hρ hs hf; have hρc := hρ.const; have hρf := hρ.func
   obtain ⟨fx1, -⟩ := hf; rw [qs1] at fx1
   clear hs
   clear HCS HVS qs1 qs2 qs3 qs4
   refine SB.run_plain ?_
   refine SB.op_move rfl fx1 ?_
   exact SB.detK.mk
  refine SB.sure_det (js := []) (ts := [4]) (gd := none) (bs := []) (SB.place_at HVS.out (k := 1) rfl) (by rw [HCS.out]; kernel_rfl) (by rw [HCS.out]; kernel_rfl) ?_ ?_
  ·intro wx hx ρ hρ hs hf; have hρc := hρ.const; have hρf := hρ.func
   obtain ⟨fx4, -⟩ := hf; rw [qs4] at fx4
   clear hs
   clear HCS HVS qs1 qs2 qs3 qs4
   refine SB.run_plain ?_
   unfold SB.runs
   go_simp
   exact SB.detK.mk
  refine SB.sure_det (js := [(1, 25), (0, 24)]) (ts := []) (gd := none) (bs := []) (SB.place_at HVS.out (k := 2) rfl) (by rw [HCS.out]; kernel_rfl) (by rw [HCS.out]; kernel_rfl) ?_ ?_
  ·intro wx hx ρ hρ hs hf; have hρc := hρ.const; have hρf := hρ.func; obtain ⟨sn1, sn0, -⟩ := hs
   rw [SB.place_at HVS.out (k := 1) rfl] at sn1; replace sn1 : ρ (.tmp 25) = _ := sn1
   rw [SB.place_at HVS.out (k := 0) rfl] at sn0; replace sn0 : ρ (.tmp 24) = _ := sn0
   clear hf
   clear HCS HVS qs1 qs2 qs3 qs4
   refine SB.run_plain ?_
   unfold SB.runs
   go_simp
   exact SB.detK.mk
  refine SB.sure_det (js := [(2, 26)]) (ts := []) (gd := none) (bs := []) (SB.place_at HVS.out (k := 3) rfl) (by rw [HCS.out]; kernel_rfl) (by rw [HCS.out]; kernel_rfl) ?_ ?_
  ·intro wx hx ρ hρ hs hf; have hρc := hρ.const; have hρf := hρ.func; obtain ⟨sn2, -⟩ := hs
   rw [SB.place_at HVS.out (k := 2) rfl] at sn2; replace sn2 : ρ (.tmp 26) = _ := sn2
   clear hf
   clear HCS HVS qs1 qs2 qs3 qs4
   refine SB.run_plain ?_
   obtain ⟨p0, p1, p2, pE⟩ := hX wx hx.ext.drawn
   unfold SB.runs
   go_simp
   exact SB.detK.mk
  refine SB.sure_det (js := []) (ts := [2]) (gd := none) (bs := []) (SB.place_at HVS.out (k := 4) rfl) (by rw [HCS.out]; kernel_rfl) (by rw [HCS.out]; kernel_rfl) ?_ ?_
  ·intro wx hx ρ hρ hs hf; have hρc := hρ.const; have hρf := hρ.func
   obtain ⟨fx2, -⟩ := hf; rw [qs2] at fx2
   clear hs
   clear HCS HVS qs1 qs2 qs3 qs4
   refine SB.run_plain ?_
   refine SB.op_move rfl fx2 ?_
   exact SB.detK.mk
  refine SB.sure_det (js := []) (ts := [3]) (gd := none) (bs := []) (SB.place_at HVS.out (k := 5) rfl) (by rw [HCS.out]; kernel_rfl) (by rw [HCS.out]; kernel_rfl) ?_ ?_
  ·intro wx hx ρ hρ hs hf; have hρc := hρ.const; have hρf := hρ.func
   obtain ⟨fx3, -⟩ := hf; rw [qs3] at fx3
   clear hs
   clear HCS HVS qs1 qs2 qs3 qs4
   refine SB.run_plain ?_
   refine SB.op_move rfl fx3 ?_
   exact SB.detK.mk
  refine SB.sure_det (js := []) (ts := [1]) (gd := none) (bs := []) (SB.place_at HVS.out (k := 6) rfl) (by rw [HCS.out]; kernel_rfl) (by rw [HCS.out]; kernel_rfl) ?_ ?_
  ·intro wx hx ρ hρ hs hf; have hρc := hρ.const; have hρf := hρ.func
   obtain ⟨fx1, -⟩ := hf; rw [qs1] at fx1
   clear hs
   clear HCS HVS qs1 qs2 qs3 qs4
   refine SB.run_plain ?_
   refine SB.op_move rfl fx1 ?_
   exact SB.detK.mk
  refine SB.sure_det (js := []) (ts := [4]) (gd := none) (bs := []) (SB.place_at HVS.out (k := 7) rfl) (by rw [HCS.out]; kernel_rfl) (by rw [HCS.out]; kernel_rfl) ?_ ?_
  ·intro wx hx ρ hρ hs hf; have hρc := hρ.const; have hρf := hρ.func
   obtain ⟨fx4, -⟩ := hf; rw [qs4] at fx4
   clear hs
   clear HCS HVS qs1 qs2 qs3 qs4
   refine SB.run_plain ?_
   unfold SB.runs
   go_simp
   exact SB.detK.mk
  refine SB.sure_det (js := [(7, 31), (6, 30)]) (ts := []) (gd := none) (bs := []) (SB.place_at HVS.out (k := 8) rfl) (by rw [HCS.out]; kernel_rfl) (by rw [HCS.out]; kernel_rfl) ?_ ?_
  ·intro wx hx ρ hρ hs hf; have hρc := hρ.const; have hρf := hρ.func; obtain ⟨sn7, sn6, -⟩ := hs
   rw [SB.place_at HVS.out (k := 7) rfl] at sn7; replace sn7 : ρ (.tmp 31) = _ := sn7
   rw [SB.place_at HVS.out (k := 6) rfl] at sn6; replace sn6 : ρ (.tmp 30) = _ := sn6
   clear hf
   clear HCS HVS qs1 qs2 qs3 qs4
   refine SB.run_plain ?_
   unfold SB.runs
   go_simp
   exact SB.detK.mk
  refine SB.sure_det (js := [(8, 32)]) (ts := []) (gd := none) (bs := []) (SB.place_at HVS.out (k := 9) rfl) (by rw [HCS.out]; kernel_rfl) (by rw [HCS.out]; kernel_rfl) ?_ ?_
  ·intro wx hx ρ hρ hs hf; have hρc := hρ.const; have hρf := hρ.func; obtain ⟨sn8, -⟩ := hs
   rw [SB.place_at HVS.out (k := 8) rfl] at sn8; replace sn8 : ρ (.tmp 32) = _ := sn8
   clear hf
   clear HCS HVS qs1 qs2 qs3 qs4
   refine SB.run_plain ?_
   obtain ⟨p0, p1, p2, pE⟩ := hX wx hx.ext.drawn
   unfold SB.runs
   go_simp
   exact SB.detK.mk
  refine SB.sure_det (js := []) (ts := [2]) (gd := none) (bs := []) (SB.place_at HVS.out (k := 10) rfl) (by rw [HCS.out]; kernel_rfl) (by rw [HCS.out]; kernel_rfl) ?_ ?_
  ·intro wx hx ρ hρ hs hf; have hρc := hρ.const; have hρf := hρ.func
   obtain ⟨fx2, -⟩ := hf; rw [qs2] at fx2
   clear hs
   clear HCS HVS qs1 qs2 qs3 qs4
   refine SB.run_plain ?_
   refine SB.op_move rfl fx2 ?_
   exact SB.detK.mk
  refine SB.sure_det (js := [(9, 33), (10, 34)]) (ts := []) (gd := none) (bs := []) (SB.place_at HVS.out (k := 11) rfl) (by rw [HCS.out]; kernel_rfl) (by rw [HCS.out]; kernel_rfl) ?_ ?_
  ·intro wx hx ρ hρ hs hf; have hρc := hρ.const; have hρf := hρ.func; obtain ⟨sn9, sn10, -⟩ := hs
   rw [SB.place_at HVS.out (k := 9) rfl] at sn9; replace sn9 : ρ (.tmp 33) = _ := sn9
   rw [SB.place_at HVS.out (k := 10) rfl] at sn10; replace sn10 : ρ (.tmp 34) = _ := sn10
   clear hf
   clear HCS HVS qs1 qs2 qs3 qs4
   refine SB.run_plain ?_
   unfold SB.runs
   go_simp
   exact SB.detK.mk
  refine SB.sure_det (js := [(11, 35)]) (ts := []) (gd := none) (bs := []) (SB.place_at HVS.out (k := 12) rfl) (by rw [HCS.out]; kernel_rfl) (by rw [HCS.out]; kernel_rfl) ?_ ?_
  ·intro wx hx ρ hρ hs hf; have hρc := hρ.const; have hρf := hρ.func; obtain ⟨sn11, -⟩ := hs
   rw [SB.place_at HVS.out (k := 11) rfl] at sn11; replace sn11 : ρ (.tmp 35) = _ := sn11
   clear hf
   clear HCS HVS qs1 qs2 qs3 qs4
   refine SB.run_plain ?_
   obtain ⟨p0, p1, p2, pE⟩ := hX wx hx.ext.drawn
   unfold SB.runs
   go_simp
   exact SB.detK.mk
  refine SB.sure_op (js := [(5, 29), (12, 36)]) (ts := []) (gd := none) (bs := []) (SB.place_at HVS.out (k := 13) rfl) (by rw [HCS.out]; kernel_rfl) (by rw [HCS.out]; kernel_rfl) ?_ ?_
  ·intro wx hx ρ hρ hs hf; have hρc := hρ.const; have hρf := hρ.func; obtain ⟨sn5, sn12, -⟩ := hs
   rw [SB.place_at HVS.out (k := 5) rfl] at sn5; replace sn5 : ρ (.tmp 29) = _ := sn5
   rw [SB.place_at HVS.out (k := 12) rfl] at sn12; replace sn12 : ρ (.tmp 36) = _ := sn12
   clear hf
   clear HCS HVS qs1 qs2 qs3 qs4
   refine SB.run_plain ?_
   refine SB.op_callv rfl sn5 hcall (map_one sn12) ?_
   refine Calls.mono (hby wx (hX wx hx.ext.drawn).2.2.2) ?_
   rintro e w' ⟨s', rfl, hg, ho, hfar, hx5⟩
   have hsx := hx.ext.drawn.size
   exact .inl ⟨_, rfl, hx5, s', rfl, hg, ho, fun hd a ha => by rcases hfar hd a ha with h | h <;> omega⟩
  exact trivial
 case hend =>
  intro xs wx hx hg hq
  have gk0 : xs 0 = _ := SB.goods_get hg (i := 0) (j := 0) (d := 24) rfl
  have gk1 : xs 1 = _ := SB.goods_get hg (i := 1) (j := 1) (d := 25) rfl
  have gk2 : xs 2 = _ := SB.goods_get hg (i := 2) (j := 2) (d := 26) rfl
  have gk3 : xs 3 = _ := SB.goods_get hg (i := 3) (j := 3) (d := 27) rfl
  have gk4 : xs 4 = _ := SB.goods_get hg (i := 4) (j := 4) (d := 28) rfl
  have gk5 : xs 5 = _ := SB.goods_get hg (i := 5) (j := 5) (d := 29) rfl
  have gk6 : xs 6 = _ := SB.goods_get hg (i := 6) (j := 6) (d := 30) rfl
  have gk7 : xs 7 = _ := SB.goods_get hg (i := 7) (j := 7) (d := 31) rfl
  have gk8 : xs 8 = _ := SB.goods_get hg (i := 8) (j := 8) (d := 32) rfl
  have gk9 : xs 9 = _ := SB.goods_get hg (i := 9) (j := 9) (d := 33) rfl
  have gk10 : xs 10 = _ := SB.goods_get hg (i := 10) (j := 10) (d := 34) rfl
  have gk11 : xs 11 = _ := SB.goods_get hg (i := 11) (j := 11) (d := 35) rfl
  have gk12 : xs 12 = _ := SB.goods_get hg (i := 12) (j := 12) (d := 36) rfl
  have gk13 : ∃ s' : St, (xs 13) = .agg #[.slice s'.D s'.q s'.cd, .int .i64 s'.k] ∧ G s' ∧ StOK wx s' ∧ (s'.d ≠ [] → ∀ a, s'.D = some a → a.block ≠ gc ∧ a.block ≠ gE ∧ a.block ≠ gE + 1) := SB.goods_get hg (i := 13) (j := 13) (d := 37) rfl
  clear hg hq
  simp only [putAll, gk0, gk1, gk2, gk3, gk4, gk5, gk6, gk7, gk8, gk9, gk10, gk11, gk12]
  clear gk0 gk1 gk2 gk3 gk4 gk5 gk6 gk7 gk8 gk9 gk10 gk11 gk12
  generalize xs 13 = vx13 at gk13 ⊢
  clear xs
  simp only [Act.put, List.setIfInBounds_toArray, List.set_cons_zero, List.set_cons_succ, List.drop_succ_cons, List.drop_zero]
  obtain ⟨s', e', hg', hok', hfar⟩ := gk13
  subst e'
  subst hgE
  have hxx : Ext W3 wx := (SB.ExtS.ext hx).drawn
  have x0 := hxx.cell s0
  have x1 := hxx.cell s1
  have y0 : wx.frozen? ⟨gc, i * 2, none⟩ = false := by rw [hxx.frozen hgl3]; exact f0
  have y1 : wx.frozen? ⟨gc, i * 2 + 1, none⟩ = false := by rw [hxx.frozen hgl3]; exact f1
  have hE4 := heap_ext hE3 hxx
  have hO4 := heap_ext hO3 hxx
  have e0 : wx.cell? ⟨w.heap.size, 0, none⟩ = some (.int .u64 R) := by simp [World.cell?, hE4]
  have e1 : wx.cell? ⟨w.heap.size, 1, none⟩ = some (.slice (some ⟨gc, 0, none⟩) n0 cc) := by simp [World.cell?, hE4]
  have e2 : wx.cell? ⟨w.heap.size, 2, none⟩ = some (.slice A1 n1 c1) := by simp [World.cell?, hE4]
  have d0 : wx.cell? ⟨w.heap.size + 1, 0, none⟩ = some (.int .u64 0) := by simp [World.cell?, hO4]
  have df0 : wx.frozen? ⟨w.heap.size + 1, 0, none⟩ = false := by simp [World.frozen?, hO4]
  have d1 : wx.cell? ⟨w.heap.size + 1, 1, none⟩ = some (.slice none 0 0) := by simp [World.cell?, hO4]
  have df1 : wx.frozen? ⟨w.heap.size + 1, 1, none⟩ = false := by simp [World.frozen?, hO4]
  have d2 : wx.cell? ⟨w.heap.size + 1, 2, none⟩ = some (.slice none 0 0) := by simp [World.cell?, hO4]
  have df2 : wx.frozen? ⟨w.heap.size + 1, 2, none⟩ = false := by simp [World.frozen?, hO4]
  have hblk := hxx.block gc hgl3
  have hokx : ∀ x ∈ l, StOK wx x := fun x hx' => (hrow.ok x hx').ext (hW3.trans hxx)
  have hX4 := hW3.trans hxx
  clear hE3 hO3 hE4 hO4 hX hx hW3 hxx s0 s1 f0 f1 hown3
  go_wp2
  refine bodyPost_ret (v := .tuple #[.agg #[.int .u64 R, .slice (some ⟨gc, 0, none⟩) n0 cc, .slice A1 n1 c1], .int .i64 0]) (by simp [results, Try.results91, go_sem, d0, d1, d2]) rfl ?_
  have hlow : ∀ x ∈ l, x.d ≠ [] → ∀ a, x.D = some a → a.block ≠ gc ∧ a.block ≠ w.heap.size ∧ a.block ≠ w.heap.size + 1 := fun x hx hd a ha => by have := (hrow.ok x hx).low hd a ha; omega
  have hst : ∀ x, StOK wx x → (x.d ≠ [] → ∀ a, x.D = some a → a.block ≠ gc ∧ a.block ≠ w.heap.size ∧ a.block ≠ w.heap.size + 1) → StOK (setAll (w.heap.size + 1) 0 [.int .u64 R, .slice (some ⟨gc, 0, none⟩) n0 cc, .slice A1 n1 c1] ((wx.setCell ⟨gc, i * 2, none⟩ (.slice s'.D s'.q s'.cd)).setCell ⟨gc, i * 2 + 1, none⟩ (.int .i64 s'.k))) x := fun x h hf =>
   ((((h.set (fun hd a ha => (hf hd a ha).1) _).set (fun hd a ha => (hf hd a ha).1) _).set (fun hd a ha => (hf hd a ha).2.2) _).set (fun hd a ha => (hf hd a ha).2.2) _).set (fun hd a ha => (hf hd a ha).2.2) _
  have hnew := hset s' (setAll (w.heap.size + 1) 0 [.int .u64 R, .slice (some ⟨gc, 0, none⟩) n0 cc, .slice A1 n1 c1] ((wx.setCell ⟨gc, i * 2, none⟩ (.slice s'.D s'.q s'.cd)).setCell ⟨gc, i * 2 + 1, none⟩ (.int .i64 s'.k)))
   (fun x hx => by
    rcases List.mem_cons.1 hx with rfl | hx
    ·exact hst _ hok' hfar
    ·exact hst _ (hokx x hx) (hlow x hx))
   (by
    rw [setAll_other (by omega)]
    exact heap_set_congr (heap_set_congr hblk))
  obtain ⟨A', c', e', hr⟩ := hnew.form
  cases e'
  refine ⟨_, _, s', rfl, hr, hg', ?_⟩
  have hx5 : Ext w ((wx.setCell ⟨gc, i * 2, none⟩ (.slice s'.D s'.q s'.cd)).setCell ⟨gc, i * 2 + 1, none⟩ (.int .i64 s'.k)) := (hX4.setCell (show w.heap.size ≤ gc by omega) _).setCell (show w.heap.size ≤ gc by omega) _
  exact setAll_ext (g := w.heap.size + 1) (vs := [.int .u64 R, .slice (some ⟨gc, 0, none⟩) n0 cc, .slice A1 n1 c1]) (i := 0) hx5 (by omega)
set_option maxRecDepth 100000 in
set_option maxHeartbeats 4000000 in
theorem turn_row1 (R : Int) (A0 A1 : Option Addr) (n0 c0 n1 c1 : Nat) (i : Nat) (l : List St) (s : St) (f : FuncId) (caps : Array Value) (G : St → Prop) (w : World) (hrow : RowV w A1 n1 c1 l) (hs : l[i]? = some s) (hn0 : n0 ≤ 65536) (hn1 : n1 ≤ 65536)
  (hcall : ∀ (args : Array Value) (w : World), (callFunc f args).run Try.prog w = .ok (.enter f args) w)
  (hby : ∀ W, Ext w W → Calls Try.prog f (#[.agg #[.slice s.D s.q s.cd, .int .i64 s.k]] ++ caps) W fun e W' => ∃ s' : St, e = .returned (.agg #[.slice s'.D s'.q s'.cd, .int .i64 s'.k]) ∧ G s' ∧ StOK W' s' ∧ (s'.d ≠ [] → ∀ a, s'.D = some a → a.block < w.heap.size ∨ W.heap.size ≤ a.block) ∧ Ext W W') :
  Calls Try.prog 91 #[.agg #[.int .u64 R, .slice A0 n0 c0, .slice A1 n1 c1], .int .i64 1, .int .i64 i, .func (.func f) #[] caps] w fun e w' =>
   ∃ (A' : Option Addr) (c' : Nat) (s' : St), e = .returned (.tuple #[.agg #[.int .u64 R, .slice A0 n0 c0, .slice A' n1 c'], .int .i64 0]) ∧ RowV w' A' n1 c' (l.set i s') ∧ G s' ∧ Ext w w' := by
 have hil : i < l.length := (List.getElem?_eq_some_iff.1 hs).1
 have hlen := hrow.len
 have hin : i < n1 := by omega
 have hini : (i : Int) < (n1 : Int) := by omega
 go_enter Try.func91, Try.ntmps91
 go_upto_region 1 with (fail)
 obtain ⟨hW, hE, hO⟩ := two_boxes7 w (.cells #[.int .u64 R, .slice A0 n0 c0, .slice A1 n1 c1] 30) (.cells #[.int .u64 0, .slice none 0 0, .slice none 0 0] 30)
 generalize (w.alloc (.cells #[.int .u64 R, .slice A0 n0 c0, .slice A1 n1 c1] 30)).alloc (.cells #[.int .u64 0, .slice none 0 0, .slice none 0 0] 30) = W at *
 have e0 : W.cell? ⟨w.heap.size, 0, none⟩ = some (.int .u64 R) := by simp [World.cell?, hE]
 have e1 : W.cell? ⟨w.heap.size, 1, none⟩ = some (.slice A0 n0 c0) := by simp [World.cell?, hE]
 have e2 : W.cell? ⟨w.heap.size, 2, none⟩ = some (.slice A1 n1 c1) := by simp [World.cell?, hE]
 go_wp2_with fail
 refine (is_any7 R A0 A1 n0 c0 n1 c1 1 i _).mono ?_
 rw [isB_row1 hin]
 rintro e w1 ⟨rfl, hx1⟩
 replace hE := heap_ext hE hx1
 replace hO := heap_ext hO hx1
 replace hW := hW.trans hx1
 clear e0 e1 e2 hx1
 have e0 : w1.cell? ⟨w.heap.size, 0, none⟩ = some (.int .u64 R) := by simp [World.cell?, hE]
 have e1 : w1.cell? ⟨w.heap.size, 1, none⟩ = some (.slice A0 n0 c0) := by simp [World.cell?, hE]
 have e2 : w1.cell? ⟨w.heap.size, 2, none⟩ = some (.slice A1 n1 c1) := by simp [World.cell?, hE]
 have hsz1 : w.heap.size + 1 < w1.heap.size := (Array.getElem?_eq_some_iff.1 hO).1
 go_wp2_with fail
 refine (clone_row A1 n1 c1 l _ (hrow.ext hW) (by omega)).mono ?_
 rintro e w2 ⟨v, rfl, hown, hx2⟩
 obtain ⟨gc, cc, rfl, hgb, hglt, hncc, -, -, -, -, -⟩ := hown.at hs
 replace hE := heap_ext hE hx2
 replace hO := heap_ext hO hx2
 replace hW := hW.trans hx2
 clear e0 e1 e2 hx2
 have e0 : w2.cell? ⟨w.heap.size, 0, none⟩ = some (.int .u64 R) := by simp [World.cell?, hE]
 have ef0 : w2.frozen? ⟨w.heap.size, 0, none⟩ = false := by simp [World.frozen?, hE]
 have e1 : w2.cell? ⟨w.heap.size, 1, none⟩ = some (.slice A0 n0 c0) := by simp [World.cell?, hE]
 have ef1 : w2.frozen? ⟨w.heap.size, 1, none⟩ = false := by simp [World.frozen?, hE]
 have e2 : w2.cell? ⟨w.heap.size, 2, none⟩ = some (.slice A1 n1 c1) := by simp [World.cell?, hE]
 have ef2 : w2.frozen? ⟨w.heap.size, 2, none⟩ = false := by simp [World.frozen?, hE]
 go_upto_region 4 with (fail)
 have hE3 : (w2.setCell ⟨w.heap.size, 2, none⟩ (.slice (some ⟨gc, 0, none⟩) n1 cc)).heap[w.heap.size]? = some (.cells #[.int .u64 R, .slice A0 n0 c0, .slice (some ⟨gc, 0, none⟩) n1 cc] 30 (0, 0)) := heap_setCell_at hE
 have hO3 : (w2.setCell ⟨w.heap.size, 2, none⟩ (.slice (some ⟨gc, 0, none⟩) n1 cc)).heap[w.heap.size + 1]? = _ := (Below.heap_setCell _ _ _ _ (by simp)).trans hO
 have hW3 : Ext w (w2.setCell ⟨w.heap.size, 2, none⟩ (.slice (some ⟨gc, 0, none⟩) n1 cc)) := hW.setCell (Nat.le_refl _) _
 have hown3 : OwnR (w2.setCell ⟨w.heap.size, 2, none⟩ (.slice (some ⟨gc, 0, none⟩) n1 cc)) w1.heap.size (.slice (some ⟨gc, 0, none⟩) n1 cc) n1 l :=
  hown.other (by simp; omega) fun x hx => (hrow.ok x hx).ext hW3
 clear e0 e1 e2 ef0 ef1 ef2 hE hO hW hown
 generalize w2.setCell ⟨w.heap.size, 2, none⟩ (.slice (some ⟨gc, 0, none⟩) n1 cc) = W3 at *
 obtain ⟨g', c', hgc, -, hgl3', -, s0, s1, f0, f1, hset⟩ := hown3.at hs
 obtain ⟨rfl, rfl⟩ : gc = g' ∧ cc = c' := by simpa using hgc
 clear hgc
 have hgl3 : gc < W3.heap.size := hgl3'
 have hw0 : w.heap.size + 1 < gc := by omega
 have ne1 : ¬ gc = w.heap.size := by omega
 have ne2 : ¬ gc = w.heap.size + 1 := by omega
 have ne3 : ¬ w.heap.size = gc := by omega
 have ne4 : ¬ w.heap.size + 1 = gc := by omega
 have hX : ∀ wx, Ext W3 wx → wx.cell? ⟨w.heap.size, 2, none⟩ = some (.slice (some ⟨gc, 0, none⟩) n1 cc) ∧ wx.cell? ⟨gc, i * 2, none⟩ = some (.slice s.D s.q s.cd) ∧ wx.cell? ⟨gc, i * 2 + 1, none⟩ = some (.int .i64 s.k) ∧ Ext w wx := fun wx hx =>
  ⟨hx.cell (by simp [World.cell?, hE3]), hx.cell s0, hx.cell s1, hW3.trans hx⟩
 obtain ⟨gE, hgE⟩ : ∃ g, g = w.heap.size := ⟨_, rfl⟩
 refine' SB.wp_region_sure (gx := []) (Pn := fun _ _ => False) ⟨((some 24, [], none) :: (some 25, [], none) :: (some 26, [1, 0], none) :: (some 27, [2], none) :: (some 28, [], none) :: (some 29, [], none) :: (some 30, [], none) :: (some 31, [], none) :: (some 32, [7, 6], none) :: (some 33, [8], none) :: (some 34, [], none) :: (some 35, [9, 10], none) :: (some 36, [11], none) :: (some 37, [5, 12], none) :: (some 38, [3, 4, 0, 1, 2, 3, 4, 5, 6, 7, 8, 9, 10, 11, 12, 13], none) :: (none, [14, 13, 13, 0, 1, 2, 3, 4, 5, 6, 7, 8, 9, 10, 11, 12, 13], none) :: []), (0 :: 0 :: 3 :: 7 :: 0 :: 0 :: 0 :: 0 :: 192 :: 448 :: 0 :: 1984 :: 4032 :: 8160 :: 16383 :: 32767 :: []), (none :: none :: none :: none :: none :: none :: none :: none :: none :: none :: none :: none :: none :: some [] :: []), []⟩ 14 40 ((0, 24) :: (1, 25) :: (2, 26) :: (3, 27) :: (4, 28) :: (5, 29) :: (6, 30) :: (7, 31) :: (8, 32) :: (9, 33) :: (10, 34) :: (11, 35) :: (12, 36) :: (13, 37) :: []) ((0, 24) :: (1, 25) :: (2, 26) :: (3, 27) :: (4, 28) :: (5, 29) :: (6, 30) :: (7, 31) :: (8, 32) :: (9, 33) :: (10, 34) :: (11, 35) :: (12, 36) :: (13, 37) :: []) (.det _ :: .det _ :: .det _ :: .det _ :: .det _ :: .det _ :: .det _ :: .det _ :: .det _ :: .det _ :: .det _ :: .det _ :: .det _ :: SB.Good.of (fun v w => ∃ s' : St, v = .agg #[.slice s'.D s'.q s'.cd, .int .i64 s'.k] ∧ G s' ∧ StOK w s' ∧ (s'.d ≠ [] → ∀ a, s'.D = some a → a.block ≠ gc ∧ a.block ≠ gE ∧ a.block ≠ gE + 1)) (fun v w w' h hx => let ⟨s', e, hg, ho, hf⟩ := h; ⟨s', e, hg, ho.ext hx, hf⟩) :: []) (by kernel_rfl) ?hpan (by kernel_rfl) (by kernel_rfl) rfl (by kernel_rfl) (by kernel_rfl) rfl ?hone ?hend
 case hpan =>
  intro _ _ _ _ h; exact h.elim
 case hone =>
  intro CS frS VS hCS ha hV
  have qs1 := slot_val (t := 1) ha rfl
  simp only [List.getElem_toArray, List.getElem_cons_succ, List.getElem_cons_zero] at qs1
  have qs2 := slot_val (t := 2) ha rfl
  simp only [List.getElem_toArray, List.getElem_cons_succ, List.getElem_cons_zero] at qs2
  have qs3 := slot_val (t := 3) ha rfl
  simp only [List.getElem_toArray, List.getElem_cons_succ, List.getElem_cons_zero] at qs3
  have qs4 := slot_val (t := 4) ha rfl
  simp only [List.getElem_toArray, List.getElem_cons_succ, List.getElem_cons_zero] at qs4
  have HCS := Lib.hid hCS
  have HVS := Lib.hid hV
  clear ha hCS hV
  refine SB.sure_det (js := []) (ts := [1]) (gd := none) (bs := []) (SB.place_at HVS.out (k := 0) rfl) (by rw [HCS.out]; kernel_rfl) (by rw [HCS.out]; kernel_rfl) ?_ ?_
  ·intro wx hx ρ hρ hs hf; have hρc := hρ.const; have hρf := hρ.func
   obtain ⟨fx1, -⟩ := hf; rw [qs1] at fx1
   clear hs
   clear HCS HVS qs1 qs2 qs3 qs4
   refine SB.run_plain ?_
   refine SB.op_move rfl fx1 ?_
   exact SB.detK.mk
  refine SB.sure_det (js := []) (ts := [4]) (gd := none) (bs := []) (SB.place_at HVS.out (k := 1) rfl) (by rw [HCS.out]; kernel_rfl) (by rw [HCS.out]; kernel_rfl) ?_ ?_
  ·intro wx hx ρ hρ hs hf; have hρc := hρ.const; have hρf := hρ.func
   obtain ⟨fx4, -⟩ := hf; rw [qs4] at fx4
   clear hs
   clear HCS HVS qs1 qs2 qs3 qs4
   refine SB.run_plain ?_
   unfold SB.runs
   go_simp
   exact SB.detK.mk
  refine SB.sure_det (js := [(1, 25), (0, 24)]) (ts := []) (gd := none) (bs := []) (SB.place_at HVS.out (k := 2) rfl) (by rw [HCS.out]; kernel_rfl) (by rw [HCS.out]; kernel_rfl) ?_ ?_
  ·intro wx hx ρ hρ hs hf; have hρc := hρ.const; have hρf := hρ.func; obtain ⟨sn1, sn0, -⟩ := hs
   rw [SB.place_at HVS.out (k := 1) rfl] at sn1; replace sn1 : ρ (.tmp 25) = _ := sn1
   rw [SB.place_at HVS.out (k := 0) rfl] at sn0; replace sn0 : ρ (.tmp 24) = _ := sn0
   clear hf
   clear HCS HVS qs1 qs2 qs3 qs4
   refine SB.run_plain ?_
   unfold SB.runs
   go_simp
   exact SB.detK.mk
  refine SB.sure_det (js := [(2, 26)]) (ts := []) (gd := none) (bs := []) (SB.place_at HVS.out (k := 3) rfl) (by rw [HCS.out]; kernel_rfl) (by rw [HCS.out]; kernel_rfl) ?_ ?_
  ·intro wx hx ρ hρ hs hf; have hρc := hρ.const; have hρf := hρ.func; obtain ⟨sn2, -⟩ := hs
   rw [SB.place_at HVS.out (k := 2) rfl] at sn2; replace sn2 : ρ (.tmp 26) = _ := sn2
   clear hf
   clear HCS HVS qs1 qs2 qs3 qs4
   refine SB.run_plain ?_
   obtain ⟨p0, p1, p2, pE⟩ := hX wx hx.ext.drawn
   unfold SB.runs
   go_simp
   exact SB.detK.mk
  refine SB.sure_det (js := []) (ts := [2]) (gd := none) (bs := []) (SB.place_at HVS.out (k := 4) rfl) (by rw [HCS.out]; kernel_rfl) (by rw [HCS.out]; kernel_rfl) ?_ ?_
  ·intro wx hx ρ hρ hs hf; have hρc := hρ.const; have hρf := hρ.func
   obtain ⟨fx2, -⟩ := hf; rw [qs2] at fx2
   clear hs
   clear HCS HVS qs1 qs2 qs3 qs4
   refine SB.run_plain ?_
   refine SB.op_move rfl fx2 ?_
   exact SB.detK.mk
  refine SB.sure_det (js := []) (ts := [3]) (gd := none) (bs := []) (SB.place_at HVS.out (k := 5) rfl) (by rw [HCS.out]; kernel_rfl) (by rw [HCS.out]; kernel_rfl) ?_ ?_
  ·intro wx hx ρ hρ hs hf; have hρc := hρ.const; have hρf := hρ.func
   obtain ⟨fx3, -⟩ := hf; rw [qs3] at fx3
   clear hs
   clear HCS HVS qs1 qs2 qs3 qs4
   refine SB.run_plain ?_
   refine SB.op_move rfl fx3 ?_
   exact SB.detK.mk
  refine SB.sure_det (js := []) (ts := [1]) (gd := none) (bs := []) (SB.place_at HVS.out (k := 6) rfl) (by rw [HCS.out]; kernel_rfl) (by rw [HCS.out]; kernel_rfl) ?_ ?_
  ·intro wx hx ρ hρ hs hf; have hρc := hρ.const; have hρf := hρ.func
   obtain ⟨fx1, -⟩ := hf; rw [qs1] at fx1
   clear hs
   clear HCS HVS qs1 qs2 qs3 qs4
   refine SB.run_plain ?_
   refine SB.op_move rfl fx1 ?_
   exact SB.detK.mk
  refine SB.sure_det (js := []) (ts := [4]) (gd := none) (bs := []) (SB.place_at HVS.out (k := 7) rfl) (by rw [HCS.out]; kernel_rfl) (by rw [HCS.out]; kernel_rfl) ?_ ?_
  ·intro wx hx ρ hρ hs hf; have hρc := hρ.const; have hρf := hρ.func
   obtain ⟨fx4, -⟩ := hf; rw [qs4] at fx4
   clear hs
   clear HCS HVS qs1 qs2 qs3 qs4
   refine SB.run_plain ?_
   unfold SB.runs
   go_simp
   exact SB.detK.mk
  refine SB.sure_det (js := [(7, 31), (6, 30)]) (ts := []) (gd := none) (bs := []) (SB.place_at HVS.out (k := 8) rfl) (by rw [HCS.out]; kernel_rfl) (by rw [HCS.out]; kernel_rfl) ?_ ?_
  ·intro wx hx ρ hρ hs hf; have hρc := hρ.const; have hρf := hρ.func; obtain ⟨sn7, sn6, -⟩ := hs
   rw [SB.place_at HVS.out (k := 7) rfl] at sn7; replace sn7 : ρ (.tmp 31) = _ := sn7
   rw [SB.place_at HVS.out (k := 6) rfl] at sn6; replace sn6 : ρ (.tmp 30) = _ := sn6
   clear hf
   clear HCS HVS qs1 qs2 qs3 qs4
   refine SB.run_plain ?_
   unfold SB.runs
   go_simp
   exact SB.detK.mk
  refine SB.sure_det (js := [(8, 32)]) (ts := []) (gd := none) (bs := []) (SB.place_at HVS.out (k := 9) rfl) (by rw [HCS.out]; kernel_rfl) (by rw [HCS.out]; kernel_rfl) ?_ ?_
  ·intro wx hx ρ hρ hs hf; have hρc := hρ.const; have hρf := hρ.func; obtain ⟨sn8, -⟩ := hs
   rw [SB.place_at HVS.out (k := 8) rfl] at sn8; replace sn8 : ρ (.tmp 32) = _ := sn8
   clear hf
   clear HCS HVS qs1 qs2 qs3 qs4
   refine SB.run_plain ?_
   obtain ⟨p0, p1, p2, pE⟩ := hX wx hx.ext.drawn
   unfold SB.runs
   go_simp
   exact SB.detK.mk
  refine SB.sure_det (js := []) (ts := [2]) (gd := none) (bs := []) (SB.place_at HVS.out (k := 10) rfl) (by rw [HCS.out]; kernel_rfl) (by rw [HCS.out]; kernel_rfl) ?_ ?_
  ·intro wx hx ρ hρ hs hf; have hρc := hρ.const; have hρf := hρ.func
   obtain ⟨fx2, -⟩ := hf; rw [qs2] at fx2
   clear hs
   clear HCS HVS qs1 qs2 qs3 qs4
   refine SB.run_plain ?_
   refine SB.op_move rfl fx2 ?_
   exact SB.detK.mk
  refine SB.sure_det (js := [(9, 33), (10, 34)]) (ts := []) (gd := none) (bs := []) (SB.place_at HVS.out (k := 11) rfl) (by rw [HCS.out]; kernel_rfl) (by rw [HCS.out]; kernel_rfl) ?_ ?_
  ·intro wx hx ρ hρ hs hf; have hρc := hρ.const; have hρf := hρ.func; obtain ⟨sn9, sn10, -⟩ := hs
   rw [SB.place_at HVS.out (k := 9) rfl] at sn9; replace sn9 : ρ (.tmp 33) = _ := sn9
   rw [SB.place_at HVS.out (k := 10) rfl] at sn10; replace sn10 : ρ (.tmp 34) = _ := sn10
   clear hf
   clear HCS HVS qs1 qs2 qs3 qs4
   refine SB.run_plain ?_
   unfold SB.runs
   go_simp
   exact SB.detK.mk
  refine SB.sure_det (js := [(11, 35)]) (ts := []) (gd := none) (bs := []) (SB.place_at HVS.out (k := 12) rfl) (by rw [HCS.out]; kernel_rfl) (by rw [HCS.out]; kernel_rfl) ?_ ?_
  ·intro wx hx ρ hρ hs hf; have hρc := hρ.const; have hρf := hρ.func; obtain ⟨sn11, -⟩ := hs
   rw [SB.place_at HVS.out (k := 11) rfl] at sn11; replace sn11 : ρ (.tmp 35) = _ := sn11
   clear hf
   clear HCS HVS qs1 qs2 qs3 qs4
   refine SB.run_plain ?_
   obtain ⟨p0, p1, p2, pE⟩ := hX wx hx.ext.drawn
   unfold SB.runs
   go_simp
   exact SB.detK.mk
  refine SB.sure_op (js := [(5, 29), (12, 36)]) (ts := []) (gd := none) (bs := []) (SB.place_at HVS.out (k := 13) rfl) (by rw [HCS.out]; kernel_rfl) (by rw [HCS.out]; kernel_rfl) ?_ ?_
  ·intro wx hx ρ hρ hs hf; have hρc := hρ.const; have hρf := hρ.func; obtain ⟨sn5, sn12, -⟩ := hs
   rw [SB.place_at HVS.out (k := 5) rfl] at sn5; replace sn5 : ρ (.tmp 29) = _ := sn5
   rw [SB.place_at HVS.out (k := 12) rfl] at sn12; replace sn12 : ρ (.tmp 36) = _ := sn12
   clear hf
   clear HCS HVS qs1 qs2 qs3 qs4
   refine SB.run_plain ?_
   refine SB.op_callv rfl sn5 hcall (map_one sn12) ?_
   refine Calls.mono (hby wx (hX wx hx.ext.drawn).2.2.2) ?_
   rintro e w' ⟨s', rfl, hg, ho, hfar, hx5⟩
   have hsx := hx.ext.drawn.size
   exact .inl ⟨_, rfl, hx5, s', rfl, hg, ho, fun hd a ha => by rcases hfar hd a ha with h | h <;> omega⟩
  exact trivial
 case hend =>
  intro xs wx hx hg hq
  have gk0 : xs 0 = _ := SB.goods_get hg (i := 0) (j := 0) (d := 24) rfl
  have gk1 : xs 1 = _ := SB.goods_get hg (i := 1) (j := 1) (d := 25) rfl
  have gk2 : xs 2 = _ := SB.goods_get hg (i := 2) (j := 2) (d := 26) rfl
  have gk3 : xs 3 = _ := SB.goods_get hg (i := 3) (j := 3) (d := 27) rfl
  have gk4 : xs 4 = _ := SB.goods_get hg (i := 4) (j := 4) (d := 28) rfl
  have gk5 : xs 5 = _ := SB.goods_get hg (i := 5) (j := 5) (d := 29) rfl
  have gk6 : xs 6 = _ := SB.goods_get hg (i := 6) (j := 6) (d := 30) rfl
  have gk7 : xs 7 = _ := SB.goods_get hg (i := 7) (j := 7) (d := 31) rfl
  have gk8 : xs 8 = _ := SB.goods_get hg (i := 8) (j := 8) (d := 32) rfl
  have gk9 : xs 9 = _ := SB.goods_get hg (i := 9) (j := 9) (d := 33) rfl
  have gk10 : xs 10 = _ := SB.goods_get hg (i := 10) (j := 10) (d := 34) rfl
  have gk11 : xs 11 = _ := SB.goods_get hg (i := 11) (j := 11) (d := 35) rfl
  have gk12 : xs 12 = _ := SB.goods_get hg (i := 12) (j := 12) (d := 36) rfl
  have gk13 : ∃ s' : St, (xs 13) = .agg #[.slice s'.D s'.q s'.cd, .int .i64 s'.k] ∧ G s' ∧ StOK wx s' ∧ (s'.d ≠ [] → ∀ a, s'.D = some a → a.block ≠ gc ∧ a.block ≠ gE ∧ a.block ≠ gE + 1) := SB.goods_get hg (i := 13) (j := 13) (d := 37) rfl
  clear hg hq
  simp only [putAll, gk0, gk1, gk2, gk3, gk4, gk5, gk6, gk7, gk8, gk9, gk10, gk11, gk12]
  clear gk0 gk1 gk2 gk3 gk4 gk5 gk6 gk7 gk8 gk9 gk10 gk11 gk12
  generalize xs 13 = vx13 at gk13 ⊢
  clear xs
  simp only [Act.put, List.setIfInBounds_toArray, List.set_cons_zero, List.set_cons_succ, List.drop_succ_cons, List.drop_zero]
  obtain ⟨s', e', hg', hok', hfar⟩ := gk13
  subst e'
  subst hgE
  have hxx : Ext W3 wx := (SB.ExtS.ext hx).drawn
  have x0 := hxx.cell s0
  have x1 := hxx.cell s1
  have y0 : wx.frozen? ⟨gc, i * 2, none⟩ = false := by rw [hxx.frozen hgl3]; exact f0
  have y1 : wx.frozen? ⟨gc, i * 2 + 1, none⟩ = false := by rw [hxx.frozen hgl3]; exact f1
  have hE4 := heap_ext hE3 hxx
  have hO4 := heap_ext hO3 hxx
  have e0 : wx.cell? ⟨w.heap.size, 0, none⟩ = some (.int .u64 R) := by simp [World.cell?, hE4]
  have e1 : wx.cell? ⟨w.heap.size, 1, none⟩ = some (.slice A0 n0 c0) := by simp [World.cell?, hE4]
  have e2 : wx.cell? ⟨w.heap.size, 2, none⟩ = some (.slice (some ⟨gc, 0, none⟩) n1 cc) := by simp [World.cell?, hE4]
  have d0 : wx.cell? ⟨w.heap.size + 1, 0, none⟩ = some (.int .u64 0) := by simp [World.cell?, hO4]
  have df0 : wx.frozen? ⟨w.heap.size + 1, 0, none⟩ = false := by simp [World.frozen?, hO4]
  have d1 : wx.cell? ⟨w.heap.size + 1, 1, none⟩ = some (.slice none 0 0) := by simp [World.cell?, hO4]
  have df1 : wx.frozen? ⟨w.heap.size + 1, 1, none⟩ = false := by simp [World.frozen?, hO4]
  have d2 : wx.cell? ⟨w.heap.size + 1, 2, none⟩ = some (.slice none 0 0) := by simp [World.cell?, hO4]
  have df2 : wx.frozen? ⟨w.heap.size + 1, 2, none⟩ = false := by simp [World.frozen?, hO4]
  have hblk := hxx.block gc hgl3
  have hokx : ∀ x ∈ l, StOK wx x := fun x hx' => (hrow.ok x hx').ext (hW3.trans hxx)
  have hX4 := hW3.trans hxx
  clear hE3 hO3 hE4 hO4 hX hx hW3 hxx s0 s1 f0 f1 hown3
  go_wp2
  refine bodyPost_ret (v := .tuple #[.agg #[.int .u64 R, .slice A0 n0 c0, .slice (some ⟨gc, 0, none⟩) n1 cc], .int .i64 0]) (by simp [results, Try.results91, go_sem, d0, d1, d2]) rfl ?_
  have hlow : ∀ x ∈ l, x.d ≠ [] → ∀ a, x.D = some a → a.block ≠ gc ∧ a.block ≠ w.heap.size ∧ a.block ≠ w.heap.size + 1 := fun x hx hd a ha => by have := (hrow.ok x hx).low hd a ha; omega
  have hst : ∀ x, StOK wx x → (x.d ≠ [] → ∀ a, x.D = some a → a.block ≠ gc ∧ a.block ≠ w.heap.size ∧ a.block ≠ w.heap.size + 1) → StOK (setAll (w.heap.size + 1) 0 [.int .u64 R, .slice A0 n0 c0, .slice (some ⟨gc, 0, none⟩) n1 cc] ((wx.setCell ⟨gc, i * 2, none⟩ (.slice s'.D s'.q s'.cd)).setCell ⟨gc, i * 2 + 1, none⟩ (.int .i64 s'.k))) x := fun x h hf =>
   ((((h.set (fun hd a ha => (hf hd a ha).1) _).set (fun hd a ha => (hf hd a ha).1) _).set (fun hd a ha => (hf hd a ha).2.2) _).set (fun hd a ha => (hf hd a ha).2.2) _).set (fun hd a ha => (hf hd a ha).2.2) _
  have hnew := hset s' (setAll (w.heap.size + 1) 0 [.int .u64 R, .slice A0 n0 c0, .slice (some ⟨gc, 0, none⟩) n1 cc] ((wx.setCell ⟨gc, i * 2, none⟩ (.slice s'.D s'.q s'.cd)).setCell ⟨gc, i * 2 + 1, none⟩ (.int .i64 s'.k)))
   (fun x hx => by
    rcases List.mem_cons.1 hx with rfl | hx
    ·exact hst _ hok' hfar
    ·exact hst _ (hokx x hx) (hlow x hx))
   (by
    rw [setAll_other (by omega)]
    exact heap_set_congr (heap_set_congr hblk))
  obtain ⟨A', c', e', hr⟩ := hnew.form
  cases e'
  refine ⟨_, _, s', rfl, hr, hg', ?_⟩
  have hx5 : Ext w ((wx.setCell ⟨gc, i * 2, none⟩ (.slice s'.D s'.q s'.cd)).setCell ⟨gc, i * 2 + 1, none⟩ (.int .i64 s'.k)) := (hX4.setCell (show w.heap.size ≤ gc by omega) _).setCell (show w.heap.size ≤ gc by omega) _
  exact setAll_ext (g := w.heap.size + 1) (vs := [.int .u64 R, .slice A0 n0 c0, .slice (some ⟨gc, 0, none⟩) n1 cc]) (i := 0) hx5 (by omega)
end Go.Proofs.Ytennnhfaghdeoaa
