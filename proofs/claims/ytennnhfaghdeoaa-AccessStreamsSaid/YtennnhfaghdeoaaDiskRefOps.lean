import Derived.Test.YtennnhfaghdeoaaDiskRef
import Derived.Test.YtennnhfaghdeoaaStreamRef
namespace Go.Proofs.Ytennnhfaghdeoaa
open Go.RowKit

/-! wealdref07: what is done with disks. -/
set_option maxRecDepth 100000 in
set_option maxHeartbeats 1000000 in
theorem ris_any (R : Int) (A0 A1 : Option Addr) (n0 c0 n1 c1 : Nat) (row i : Int) (w : World) :
  Calls Try.prog 93 #[.agg #[.int .u64 R, .slice A0 n0 c0, .slice A1 n1 c1], .int .i64 row, .int .i64 i] w fun e w' => e = .returned (.bool (isB row i n0 n0)) ∧ Ext w w' := by
 have hE : Ext w (w.alloc (.cells #[.int .u64 R, .slice A0 n0 c0, .slice A1 n1 c1] 30)) := (Below.refl _ w).alloc (Nat.le_refl _) _
 by_cases h0 : row = 0
 ·subst h0
  by_cases hi : 0 ≤ i
  ·by_cases hn : i < (n0 : Int)
   ·rw [show isB 0 i n0 n0 = true by simp [isB, hi, hn]]
    go_enter Try.func93, Try.ntmps93
    go_wp2
    go_ret
    exact ⟨rfl, hE⟩
   ·rw [show isB 0 i n0 n0 = false by simp [isB, hn]]
    go_enter Try.func93, Try.ntmps93
    go_wp2
    go_ret
    exact ⟨rfl, hE⟩
  ·rw [show isB 0 i n0 n0 = false by simp [isB, hi]]
   go_enter Try.func93, Try.ntmps93
   go_wp2
   go_ret
   exact ⟨rfl, hE⟩
 ·by_cases h1 : row = 1
  ·subst h1
   by_cases hi : 0 ≤ i
   ·by_cases hn : i < (n0 : Int)
    ·rw [show isB 1 i n0 n0 = true by simp [isB, hi, hn]]
     go_enter Try.func93, Try.ntmps93
     go_wp2
     go_ret
     exact ⟨rfl, hE⟩
    ·rw [show isB 1 i n0 n0 = false by simp [isB, hn]]
     go_enter Try.func93, Try.ntmps93
     go_wp2
     go_ret
     exact ⟨rfl, hE⟩
   ·rw [show isB 1 i n0 n0 = false by simp [isB, hi]]
    go_enter Try.func93, Try.ntmps93
    go_wp2
    go_ret
    exact ⟨rfl, hE⟩
  ·rw [show isB row i n0 n0 = false by simp [isB, h0, h1]]
   go_enter Try.func93, Try.ntmps93
   go_wp2
   go_ret
   exact ⟨rfl, hE⟩
set_option maxRecDepth 100000 in
set_option maxHeartbeats 4000000 in
/-- a disk with another stream -/
theorem rwith_row0 (R : Int) (A0 A1 : Option Addr) (n0 c0 n1 c1 : Nat) (i : Nat) (l : List St) (s s' : St) (w : World) (hrow : RowV w A0 n0 c0 l) (hs : l[i]? = some s) (hs' : StOK w s') (hn : n0 ≤ 65536) :
  Calls Try.prog 94 #[.agg #[.int .u64 R, .slice A0 n0 c0, .slice A1 n1 c1], .int .i64 0, .int .i64 i, .agg #[.slice s'.D s'.q s'.cd, .int .i64 s'.k]] w fun e w' =>
   ∃ (A' : Option Addr) (c' : Nat), e = .returned (.agg #[.int .u64 R, .slice A' n0 c', .slice A1 n1 c1]) ∧ RowV w' A' n0 c' (l.set i s') ∧ Ext w w' := by
 obtain ⟨i0, hi0, hz0, hz1, hz2⟩ := info_parts info_stream
 have hbs : ∀ W : World, (Instr.buildSlice 27 0 #[]).run Try.prog W = .ok (.slice (some ⟨W.heap.size, 0, none⟩) 0 0) (W.alloc (.cells #[] 90)) := fun _ => by kernel_rfl
 have hil : i < l.length := (List.getElem?_eq_some_iff.1 hs).1
 have hlen := hrow.len
 have hini : (i : Int) < (n0 : Int) := by omega
 go_enter Try.func94, Try.ntmps94
 go_upto_region 1 with (fail)
 obtain ⟨hW, -, hE, hG, hO⟩ := three_boxes7 w (.cells #[.int .u64 R, .slice A0 n0 c0, .slice A1 n1 c1] 30) (.cells #[.slice s'.D s'.q s'.cd, .int .i64 s'.k] 90) (.cells #[.int .u64 0, .slice none 0 0, .slice none 0 0] 30)
 generalize ((w.alloc (.cells #[.int .u64 R, .slice A0 n0 c0, .slice A1 n1 c1] 30)).alloc (.cells #[.slice s'.D s'.q s'.cd, .int .i64 s'.k] 90)).alloc (.cells #[.int .u64 0, .slice none 0 0, .slice none 0 0] 30) = W at *
 have hlt : w.heap.size + 1 + 1 < W.heap.size := (Array.getElem?_eq_some_iff.1 hO).1
 have hown0 := own_start W
 have hWa : Ext W (W.alloc (.cells #[] 90)) := (Below.refl _ W).alloc (Nat.le_refl _) _
 have e1 : (W.alloc (.cells #[] 90)).cell? ⟨w.heap.size, 1, none⟩ = some (.slice A0 n0 c0) := hWa.cell (by simp [World.cell?, hE])
 go_upto_region 2 with (at_builtin; refine wpList_append_own_any rfl (.tmp 10) (.tmp 14) _ _ rfl W.heap.size i0 _ 2 32 Try.underlying27 hi0 hz0 hz1 hz2 rfl (by decide) _ 0 [] rfl hown0 A0 n0 c0 (rowCells l) rfl (by rw [rowCells_length, hlen]) (hrow.cells.ext (hW.trans hWa)) hrow.none0 (rowCells_one _) (by simp only [maxLen]; omega) (by omega) (by simp) ?_; intro v1 w1 hown1 hb1)
 try simp only [Nat.zero_add, List.nil_append] at hown1
 have hx1 : Ext W w1 := Below.trans hWa hb1
 replace hE := heap_ext hE hx1
 replace hG := heap_ext hG hx1
 replace hO := heap_ext hO hx1
 replace hW := hW.trans hx1
 have hor : OwnR w1 W.heap.size v1 n0 l := ⟨hown1, fun x hx => (hrow.ok x hx).ext hW⟩
 obtain ⟨gc, cc, rfl, hgb, hglt, hncc, q0, q1, qf0, qf1, hset⟩ := hor.at hs
 clear e1 hown1 hb1 hx1 hown0 hWa hor
 have hgw : w.heap.size + 1 + 1 < gc := by omega
 clear hlt hgb
 have b0 : w1.cell? ⟨w.heap.size + 1, 0, none⟩ = some (.slice s'.D s'.q s'.cd) := by simp [World.cell?, hG]
 have b1 : w1.cell? ⟨w.heap.size + 1, 1, none⟩ = some (.int .i64 s'.k) := by simp [World.cell?, hG]
 go_upto_region 3 with (fail)
 have hX3 : Ext w ((w1.setCell ⟨gc, i * 2, none⟩ (.slice s'.D s'.q s'.cd)).setCell ⟨gc, i * 2 + 1, none⟩ (.int .i64 s'.k)) := Ext.trans (show Ext w (w1.setCell ⟨gc, i * 2, none⟩ _) from hW.setCell (show w.heap.size ≤ gc by omega) _) (Ext.refl _) |>.setCell (show w.heap.size ≤ gc by omega) _
 have hnew := hset s' ((w1.setCell ⟨gc, i * 2, none⟩ (.slice s'.D s'.q s'.cd)).setCell ⟨gc, i * 2 + 1, none⟩ (.int .i64 s'.k)) (fun x hx' => by
   rcases List.mem_cons.1 hx' with rfl | hx'
   ·exact hs'.ext hX3
   ·exact (hrow.ok x hx').ext hX3) rfl
 replace hE : ((w1.setCell ⟨gc, i * 2, none⟩ (.slice s'.D s'.q s'.cd)).setCell ⟨gc, i * 2 + 1, none⟩ (.int .i64 s'.k)).heap[w.heap.size]? = some (.cells #[.int .u64 R, .slice A0 n0 c0, .slice A1 n1 c1] 30 (0, 0)) := by
  rw [Below.heap_setCell _ _ _ _ (by simp; omega), Below.heap_setCell _ _ _ _ (by simp; omega)]; exact hE
 replace hO : ((w1.setCell ⟨gc, i * 2, none⟩ (.slice s'.D s'.q s'.cd)).setCell ⟨gc, i * 2 + 1, none⟩ (.int .i64 s'.k)).heap[w.heap.size + 1 + 1]? = some (.cells #[.int .u64 0, .slice none 0 0, .slice none 0 0] 30 (0, 0)) := by
  rw [Below.heap_setCell _ _ _ _ (by simp; omega), Below.heap_setCell _ _ _ _ (by simp; omega)]; exact hO
 clear q0 q1 qf0 qf1 hset b0 b1 hG hW
 generalize (w1.setCell ⟨gc, i * 2, none⟩ (.slice s'.D s'.q s'.cd)).setCell ⟨gc, i * 2 + 1, none⟩ (.int .i64 s'.k) = W3 at *
 have e0 : W3.cell? ⟨w.heap.size, 0, none⟩ = some (.int .u64 R) := by simp [World.cell?, hE]
 have ef0 : W3.frozen? ⟨w.heap.size, 0, none⟩ = false := by simp [World.frozen?, hE]
 have e1 : W3.cell? ⟨w.heap.size, 1, none⟩ = some (.slice A0 n0 c0) := by simp [World.cell?, hE]
 have ef1 : W3.frozen? ⟨w.heap.size, 1, none⟩ = false := by simp [World.frozen?, hE]
 have e2 : W3.cell? ⟨w.heap.size, 2, none⟩ = some (.slice A1 n1 c1) := by simp [World.cell?, hE]
 have ef2 : W3.frozen? ⟨w.heap.size, 2, none⟩ = false := by simp [World.frozen?, hE]
 go_upto_region 4 with (fail)
 have hX4 : Ext w (W3.setCell ⟨w.heap.size, 1, none⟩ (.slice (some ⟨gc, 0, none⟩) n0 cc)) := hX3.setCell (Nat.le_refl _) _
 have hE4 : (W3.setCell ⟨w.heap.size, 1, none⟩ (.slice (some ⟨gc, 0, none⟩) n0 cc)).heap[w.heap.size]? = some (.cells #[.int .u64 R, .slice (some ⟨gc, 0, none⟩) n0 cc, .slice A1 n1 c1] 30 (0, 0)) := heap_setCell_at hE
 have hO4 : (W3.setCell ⟨w.heap.size, 1, none⟩ (.slice (some ⟨gc, 0, none⟩) n0 cc)).heap[w.heap.size + 1 + 1]? = some (.cells #[.int .u64 0, .slice none 0 0, .slice none 0 0] 30 (0, 0)) := (Below.heap_setCell _ _ _ _ (by simp <;> omega)).trans hO
 have hown4 := hnew.other (p := ⟨w.heap.size, 1, none⟩) (u := .slice (some ⟨gc, 0, none⟩) n0 cc) (by simp; omega) (fun x hx => by
  rcases List.mem_or_eq_of_mem_set hx with h' | h'
  ·exact (hrow.ok x h').ext hX4
  ·subst h'; exact hs'.ext hX4)
 clear e0 e1 e2 ef0 ef1 ef2 hE hO hX3 hnew
 generalize W3.setCell ⟨w.heap.size, 1, none⟩ (.slice (some ⟨gc, 0, none⟩) n0 cc) = W4 at *
 obtain ⟨A', c', hv, hr⟩ := hown4.form
 cases hv
 have hr2 := fun vs => hr.box hO4 (fun v hv => diskish_three v hv rfl rfl rfl) 0 vs
 have e0 : W4.cell? ⟨w.heap.size, 0, none⟩ = some (.int .u64 R) := by simp [World.cell?, hE4]
 have e1 : W4.cell? ⟨w.heap.size, 1, none⟩ = some (.slice (some ⟨gc, 0, none⟩) n0 cc) := by simp [World.cell?, hE4]
 have e2 : W4.cell? ⟨w.heap.size, 2, none⟩ = some (.slice A1 n1 c1) := by simp [World.cell?, hE4]
 have d0 : W4.cell? ⟨w.heap.size + 1 + 1, 0, none⟩ = some (.int .u64 0) := by simp [World.cell?, hO4]
 have df0 : W4.frozen? ⟨w.heap.size + 1 + 1, 0, none⟩ = false := by simp [World.frozen?, hO4]
 have d1 : W4.cell? ⟨w.heap.size + 1 + 1, 1, none⟩ = some (.slice none 0 0) := by simp [World.cell?, hO4]
 have df1 : W4.frozen? ⟨w.heap.size + 1 + 1, 1, none⟩ = false := by simp [World.frozen?, hO4]
 have d2 : W4.cell? ⟨w.heap.size + 1 + 1, 2, none⟩ = some (.slice none 0 0) := by simp [World.cell?, hO4]
 have df2 : W4.frozen? ⟨w.heap.size + 1 + 1, 2, none⟩ = false := by simp [World.frozen?, hO4]
 clear hE4 hO4 hown4 hr
 go_wp2
 refine bodyPost_ret (v := .agg #[.int .u64 R, .slice (some ⟨gc, 0, none⟩) n0 cc, .slice A1 n1 c1]) (by simp [results, Try.results94, go_sem, d0, d1, d2]) rfl ⟨_, _, rfl, hr2 [.int .u64 R, .slice (some ⟨gc, 0, none⟩) n0 cc, .slice A1 n1 c1], ?_⟩
 exact setAll_ext (g := w.heap.size + 1 + 1) (vs := [.int .u64 R, .slice (some ⟨gc, 0, none⟩) n0 cc, .slice A1 n1 c1]) (i := 0) hX4 (by omega)
set_option maxRecDepth 100000 in
set_option maxHeartbeats 4000000 in
theorem rappend_row0 (R : Int) (A0 A1 : Option Addr) (n0 c0 n1 c1 : Nat) (i : Nat) (l : List St) (s : St) (B : Option Addr) (m c2 : Nat) (b : List UInt8) (w : World) (hrow : RowV w A0 n0 c0 l) (hs : l[i]? = some s) (hn : n0 ≤ 65536) (hnn : n0 = n1)
  (hB : BytesV w B m c2 b) (hm : s.q + m ≤ 65536) :
  Calls Try.prog 68 #[.agg #[.int .u64 R, .slice A0 n0 c0, .slice A1 n1 c1], .int .i64 0, .int .i64 i, .slice B m c2] w fun e w' =>
   ∃ (A' : Option Addr) (c' : Nat) (s' : St), e = .returned (.tuple #[.agg #[.int .u64 R, .slice A' n0 c', .slice A1 n1 c1], .int .i64 0]) ∧ RowV w' A' n0 c' (l.set i s') ∧ (s'.q = s.q + m ∧ s'.k = s.k ∧ s'.d = s.d ++ b) ∧ Ext w w' := by
 have hil : i < l.length := (List.getElem?_eq_some_iff.1 hs).1
 have hlen := hrow.len
 have hin : i < n0 := by omega
 have hini : (i : Int) < (n0 : Int) := by omega
 clear hnn
 have hrow' := hrow
 obtain ⟨a, rfl, a0, a1, aok⟩ := hrow.at hs
 go_enter Try.func68, Try.ntmps68
 go_upto_region 1 with (fail)
 obtain ⟨hW, hE, hO⟩ := two_boxes7 w (.cells #[.int .u64 R, .slice (some a) n0 c0, .slice A1 n1 c1] 30) (.cells #[.int .u64 0, .slice none 0 0, .slice none 0 0] 30)
 generalize (w.alloc (.cells #[.int .u64 R, .slice (some a) n0 c0, .slice A1 n1 c1] 30)).alloc (.cells #[.int .u64 0, .slice none 0 0, .slice none 0 0] 30) = W at *
 have e0 : W.cell? ⟨w.heap.size, 0, none⟩ = some (.int .u64 R) := by simp [World.cell?, hE]
 have e1 : W.cell? ⟨w.heap.size, 1, none⟩ = some (.slice (some a) n0 c0) := by simp [World.cell?, hE]
 have e2 : W.cell? ⟨w.heap.size, 2, none⟩ = some (.slice A1 n1 c1) := by simp [World.cell?, hE]
 go_wp2_with fail
 refine (ris_any R _ _ n0 c0 n1 c1 0 i _).mono ?_
 rw [isB_row0 hin]
 rintro e w1 ⟨rfl, hx1⟩
 replace hE := heap_ext hE hx1
 replace hO := heap_ext hO hx1
 replace hW := hW.trans hx1
 clear e0 e1 e2 hx1
 go_upto_region 4 with (fail)
 have hX : ∀ wx, Ext w1 wx → wx.cell? ⟨w.heap.size, 0, none⟩ = some (.int .u64 R) ∧ wx.cell? ⟨w.heap.size, 1, none⟩ = some (.slice (some a) n0 c0) ∧ wx.cell? ⟨w.heap.size, 2, none⟩ = some (.slice A1 n1 c1) ∧ wx.cell? (a.add (i * 2)) = some (.slice s.D s.q s.cd) ∧ wx.cell? ⟨(a.add (i * 2)).block, (a.add (i * 2)).off + 1, none⟩ = some (.int .i64 s.k) ∧ Ext w wx := fun wx hx =>
  ⟨hx.cell (by simp [World.cell?, hE]), hx.cell (by simp [World.cell?, hE]), hx.cell (by simp [World.cell?, hE]), (hW.trans hx).cell a0, (hW.trans hx).cell a1, hW.trans hx⟩
 refine' wp_region_sure ⟨((some 18, [], none) :: (some 19, [], none) :: (some 20, [], none) :: (some 21, [], none) :: (some 22, [], none) :: (some 23, [4, 3], none) :: (some 24, [5], none) :: (some 25, [], none) :: (some 26, [6, 7], none) :: (some 27, [8], none) :: (some 28, [], none) :: (some 29, [9, 10], none) :: (some 30, [0, 1, 2, 11, 11], none) :: (none, [12, 12, 0, 1, 2, 3, 4, 5, 6, 7, 8, 9, 10, 11, 12], none) :: (some 9, [13, 0, 1, 2, 3, 4, 5, 6, 7, 8, 9, 10, 11, 12, 13], none) :: []), (0 :: 0 :: 0 :: 0 :: 0 :: 24 :: 56 :: 0 :: 248 :: 504 :: 0 :: 2040 :: 4095 :: 8191 :: 16383 :: []), (true :: true :: true :: true :: true :: true :: true :: true :: true :: true :: true :: false :: false :: []), [], 0⟩ 13 31 ((0, 18) :: (1, 19) :: (2, 20) :: (3, 21) :: (4, 22) :: (5, 23) :: (6, 24) :: (7, 25) :: (8, 26) :: (9, 27) :: (10, 28) :: (11, 29) :: (12, 30) :: []) ((0, 18) :: (1, 19) :: (2, 20) :: (3, 21) :: (4, 22) :: (5, 23) :: (6, 24) :: (7, 25) :: (8, 26) :: (9, 27) :: (10, 28) :: (11, 29) :: (12, 30) :: []) (.det _ :: .det _ :: .det _ :: .det _ :: .det _ :: .det _ :: .det _ :: .det _ :: .det _ :: .det _ :: .det _ :: Good.of (fun v w => ∃ s' : St, v = .agg #[.slice s'.D s'.q s'.cd, .int .i64 s'.k] ∧ (s'.q = s.q + m ∧ s'.k = s.k ∧ s'.d = s.d ++ b) ∧ StOK w s') (fun v w w' h hx => let ⟨s', e, hg, ho⟩ := h; ⟨s', e, hg, ho.ext hx⟩) :: Good.of (fun v w => ∃ (A' : Option Addr) (c' : Nat) (s' : St), v = .agg #[.int .u64 R, .slice A' n0 c', .slice A1 n1 c1] ∧ (s'.q = s.q + m ∧ s'.k = s.k ∧ s'.d = s.d ++ b) ∧ RowV w A' n0 c' (l.set i s')) (fun v w w' h hx => let ⟨A', c', s', e, hg, ho⟩ := h; ⟨A', c', s', e, hg, ho.ext hx⟩) :: []) (by kernel_rfl) (by kernel_rfl) (by kernel_rfl) rfl (by kernel_rfl) (by kernel_rfl) rfl ?hone ?hend
 case hone =>
  intro CS frS VS hCS ha hV
  have qs1 := slot_val (t := 1) ha rfl
  simp only [List.getElem_toArray, List.getElem_cons_succ, List.getElem_cons_zero] at qs1
  have qs2 := slot_val (t := 2) ha rfl
  simp only [List.getElem_toArray, List.getElem_cons_succ, List.getElem_cons_zero] at qs2
  have qs3 := slot_val (t := 3) ha rfl
  simp only [List.getElem_toArray, List.getElem_cons_succ, List.getElem_cons_zero] at qs3
  have qs4 := slot_val (t := 4) ha rfl
  simp only [List.getElem_toArray, List.getElem_cons_succ, List.getElem_cons_zero] at qs4
  have HCS := Lib.hid hCS
  have HVS := Lib.hid hV
  clear ha hCS hV
  refine sure_det (js := []) (ts := [4]) (gd := none) (place_at HVS.out (k := 0) rfl) (by rw [HCS.out]; kernel_rfl) ?_ ?_
  ·intro wx hx ρ hρ hs hf; have hρc := hρ.const; have hρf := hρ.func
   obtain ⟨fx4, -⟩ := hf; rw [qs4] at fx4
   clear hs
   clear HCS HVS qs1 qs2 qs3 qs4
   refine run_plain ?_
   obtain ⟨p0, p1, p2, p3, p4, -⟩ := hX wx hx.drawn
   unfold runs
   go_simp
   exact detK.mk
  refine sure_det (js := []) (ts := [1]) (gd := none) (place_at HVS.out (k := 1) rfl) (by rw [HCS.out]; kernel_rfl) ?_ ?_
  ·intro wx hx ρ hρ hs hf; have hρc := hρ.const; have hρf := hρ.func
   obtain ⟨fx1, -⟩ := hf; rw [qs1] at fx1
   clear hs
   clear HCS HVS qs1 qs2 qs3 qs4
   refine run_plain ?_
   refine op_move rfl fx1 ?_
   exact detK.mk
  refine sure_det (js := []) (ts := [2]) (gd := none) (place_at HVS.out (k := 2) rfl) (by rw [HCS.out]; kernel_rfl) ?_ ?_
  ·intro wx hx ρ hρ hs hf; have hρc := hρ.const; have hρf := hρ.func
   obtain ⟨fx2, -⟩ := hf; rw [qs2] at fx2
   clear hs
   clear HCS HVS qs1 qs2 qs3 qs4
   refine run_plain ?_
   refine op_move rfl fx2 ?_
   exact detK.mk
  refine sure_det (js := []) (ts := [1]) (gd := none) (place_at HVS.out (k := 3) rfl) (by rw [HCS.out]; kernel_rfl) ?_ ?_
  ·intro wx hx ρ hρ hs hf; have hρc := hρ.const; have hρf := hρ.func
   obtain ⟨fx1, -⟩ := hf; rw [qs1] at fx1
   clear hs
   clear HCS HVS qs1 qs2 qs3 qs4
   refine run_plain ?_
   refine op_move rfl fx1 ?_
   exact detK.mk
  refine sure_det (js := []) (ts := [4]) (gd := none) (place_at HVS.out (k := 4) rfl) (by rw [HCS.out]; kernel_rfl) ?_ ?_
  ·intro wx hx ρ hρ hs hf; have hρc := hρ.const; have hρf := hρ.func
   obtain ⟨fx4, -⟩ := hf; rw [qs4] at fx4
   clear hs
   clear HCS HVS qs1 qs2 qs3 qs4
   refine run_plain ?_
   unfold runs
   go_simp
   exact detK.mk
  refine sure_det (js := [(4, 22), (3, 21)]) (ts := []) (gd := none) (place_at HVS.out (k := 5) rfl) (by rw [HCS.out]; kernel_rfl) ?_ ?_
  ·intro wx hx ρ hρ hs hf; have hρc := hρ.const; have hρf := hρ.func; obtain ⟨sn4, sn3, -⟩ := hs; rw [place_at HVS.out (k := 4) rfl] at sn4; replace sn4 : ρ (.tmp 22) = _ := sn4; rw [place_at HVS.out (k := 3) rfl] at sn3; replace sn3 : ρ (.tmp 21) = _ := sn3
   clear hf
   clear HCS HVS qs1 qs2 qs3 qs4
   refine run_plain ?_
   unfold runs
   go_simp
   exact detK.mk
  refine sure_det (js := [(5, 23)]) (ts := []) (gd := none) (place_at HVS.out (k := 6) rfl) (by rw [HCS.out]; kernel_rfl) ?_ ?_
  ·intro wx hx ρ hρ hs hf; have hρc := hρ.const; have hρf := hρ.func; obtain ⟨sn5, -⟩ := hs; rw [place_at HVS.out (k := 5) rfl] at sn5; replace sn5 : ρ (.tmp 23) = _ := sn5
   clear hf
   clear HCS HVS qs1 qs2 qs3 qs4
   refine run_plain ?_
   obtain ⟨p0, p1, p2, p3, p4, -⟩ := hX wx hx.drawn
   unfold runs
   go_simp
   exact detK.mk
  refine sure_det (js := []) (ts := [2]) (gd := none) (place_at HVS.out (k := 7) rfl) (by rw [HCS.out]; kernel_rfl) ?_ ?_
  ·intro wx hx ρ hρ hs hf; have hρc := hρ.const; have hρf := hρ.func
   obtain ⟨fx2, -⟩ := hf; rw [qs2] at fx2
   clear hs
   clear HCS HVS qs1 qs2 qs3 qs4
   refine run_plain ?_
   refine op_move rfl fx2 ?_
   exact detK.mk
  refine sure_det (js := [(6, 24), (7, 25)]) (ts := []) (gd := none) (place_at HVS.out (k := 8) rfl) (by rw [HCS.out]; kernel_rfl) ?_ ?_
  ·intro wx hx ρ hρ hs hf; have hρc := hρ.const; have hρf := hρ.func; obtain ⟨sn6, sn7, -⟩ := hs; rw [place_at HVS.out (k := 6) rfl] at sn6; replace sn6 : ρ (.tmp 24) = _ := sn6; rw [place_at HVS.out (k := 7) rfl] at sn7; replace sn7 : ρ (.tmp 25) = _ := sn7
   clear hf
   clear HCS HVS qs1 qs2 qs3 qs4
   refine run_plain ?_
   unfold runs
   go_simp
   exact detK.mk
  refine sure_det (js := [(8, 26)]) (ts := []) (gd := none) (place_at HVS.out (k := 9) rfl) (by rw [HCS.out]; kernel_rfl) ?_ ?_
  ·intro wx hx ρ hρ hs hf; have hρc := hρ.const; have hρf := hρ.func; obtain ⟨sn8, -⟩ := hs; rw [place_at HVS.out (k := 8) rfl] at sn8; replace sn8 : ρ (.tmp 26) = _ := sn8
   clear hf
   clear HCS HVS qs1 qs2 qs3 qs4
   refine run_plain ?_
   obtain ⟨p0, p1, p2, p3, p4, -⟩ := hX wx hx.drawn
   unfold runs
   go_simp
   exact detK.mk
  refine sure_det (js := []) (ts := [3]) (gd := none) (place_at HVS.out (k := 10) rfl) (by rw [HCS.out]; kernel_rfl) ?_ ?_
  ·intro wx hx ρ hρ hs hf; have hρc := hρ.const; have hρf := hρ.func
   obtain ⟨fx3, -⟩ := hf; rw [qs3] at fx3
   clear hs
   clear HCS HVS qs1 qs2 qs3 qs4
   refine run_plain ?_
   refine op_move rfl fx3 ?_
   exact detK.mk
  refine sure_op (js := [(9, 27), (10, 28)]) (ts := []) (gd := none) (place_at HVS.out (k := 11) rfl) (by rw [HCS.out]; kernel_rfl) ?_ ?_
  ·intro wx hx ρ hρ hs hf; have hρc := hρ.const; have hρf := hρ.func; obtain ⟨sn9, sn10, -⟩ := hs; rw [place_at HVS.out (k := 9) rfl] at sn9; replace sn9 : ρ (.tmp 27) = _ := sn9; rw [place_at HVS.out (k := 10) rfl] at sn10; replace sn10 : ρ (.tmp 28) = _ := sn10
   clear hf
   clear HCS HVS qs1 qs2 qs3 qs4
   refine run_plain ?_
   refine op_call rfl hρ Try.call45 (map_two sn9 sn10) ?_
   refine Calls.mono (rappend_any s.D B s.q s.cd m c2 s.k s.d b _ (StOK.ext aok (hX _ hx.drawn).2.2.2.2.2) (hB.ext (hX _ hx.drawn).2.2.2.2.2) hm) ?_
   rintro e w' ⟨X, cx, rfl, hV, hx5⟩
   exact ⟨_, rfl, hx5, ⟨X, s.q + m, cx, s.k, s.d ++ b⟩, rfl, ⟨rfl, rfl, rfl⟩, hV⟩
  refine sure_op (js := [(0, 18), (1, 19), (2, 20), (11, 29)]) (ts := []) (gd := none) (place_at HVS.out (k := 12) rfl) (by rw [HCS.out]; kernel_rfl) ?_ ?_
  ·intro wx hx ρ hρ hs hf; have hρc := hρ.const; have hρf := hρ.func; obtain ⟨sn0, sn1, sn2, sn11, -⟩ := hs; rw [place_at HVS.out (k := 0) rfl] at sn0; replace sn0 : ρ (.tmp 18) = _ := sn0; rw [place_at HVS.out (k := 1) rfl] at sn1; replace sn1 : ρ (.tmp 19) = _ := sn1; rw [place_at HVS.out (k := 2) rfl] at sn2; replace sn2 : ρ (.tmp 20) = _ := sn2; rw [place_at HVS.out (k := 11) rfl] at sn11; replace sn11 : ∃ s' : St, (ρ (.tmp 29)) = .agg #[.slice s'.D s'.q s'.cd, .int .i64 s'.k] ∧ (s'.q = s.q + m ∧ s'.k = s.k ∧ s'.d = s.d ++ b) ∧ StOK wx s' := sn11
   clear hf
   clear HCS HVS qs1 qs2 qs3 qs4
   refine run_plain ?_
   obtain ⟨s', e11, hg, ho⟩ := sn11
   refine op_call rfl hρ Try.call94 (map_four sn0 sn1 sn2 e11) ?_
   refine Calls.mono (rwith_row0 R _ _ n0 c0 n1 c1 i l s s' _ (hrow'.ext (hX _ hx.drawn).2.2.2.2.2) hs ho hn) ?_
   rintro e w' ⟨A', c', rfl, hr, hx5⟩
   exact ⟨_, rfl, hx5, A', c', s', rfl, hg, hr⟩
  exact trivial
 case hend =>
  intro xs wx hx hg
  have gk0 : xs 0 = _ := goods_get hg (i := 0) (j := 0) (d := 18) rfl
  have gk1 : xs 1 = _ := goods_get hg (i := 1) (j := 1) (d := 19) rfl
  have gk2 : xs 2 = _ := goods_get hg (i := 2) (j := 2) (d := 20) rfl
  have gk3 : xs 3 = _ := goods_get hg (i := 3) (j := 3) (d := 21) rfl
  have gk4 : xs 4 = _ := goods_get hg (i := 4) (j := 4) (d := 22) rfl
  have gk5 : xs 5 = _ := goods_get hg (i := 5) (j := 5) (d := 23) rfl
  have gk6 : xs 6 = _ := goods_get hg (i := 6) (j := 6) (d := 24) rfl
  have gk7 : xs 7 = _ := goods_get hg (i := 7) (j := 7) (d := 25) rfl
  have gk8 : xs 8 = _ := goods_get hg (i := 8) (j := 8) (d := 26) rfl
  have gk9 : xs 9 = _ := goods_get hg (i := 9) (j := 9) (d := 27) rfl
  have gk10 : xs 10 = _ := goods_get hg (i := 10) (j := 10) (d := 28) rfl
  have gk11 : ∃ s' : St, (xs 11) = .agg #[.slice s'.D s'.q s'.cd, .int .i64 s'.k] ∧ (s'.q = s.q + m ∧ s'.k = s.k ∧ s'.d = s.d ++ b) ∧ StOK wx s' := goods_get hg (i := 11) (j := 11) (d := 29) rfl
  have gk12 : ∃ (A' : Option Addr) (c' : Nat) (s' : St), (xs 12) = .agg #[.int .u64 R, .slice A' n0 c', .slice A1 n1 c1] ∧ (s'.q = s.q + m ∧ s'.k = s.k ∧ s'.d = s.d ++ b) ∧ RowV wx A' n0 c' (l.set i s') := goods_get hg (i := 12) (j := 12) (d := 30) rfl
  clear hg
  simp only [putAll, gk0, gk1, gk2, gk3, gk4, gk5, gk6, gk7, gk8, gk9, gk10]
  clear gk0 gk1 gk2 gk3 gk4 gk5 gk6 gk7 gk8 gk9 gk10
  generalize xs 11 = vx11 at gk11 ⊢
  generalize xs 12 = vx12 at gk12 ⊢
  clear xs
  simp only [Act.put, List.setIfInBounds_toArray, List.set_cons_zero, List.set_cons_succ, List.drop_succ_cons, List.drop_zero]
  obtain ⟨A', c', s', e12, hg, hr⟩ := gk12
  have hxx : Ext w1 wx := hx.drawn
  replace hO := heap_ext hO hxx
  replace hW := hW.trans hxx
  clear hX hE hx hxx
  subst e12
  have d0 : wx.cell? ⟨w.heap.size + 1, 0, none⟩ = some (.int .u64 0) := by simp [World.cell?, hO]
  have df0 : wx.frozen? ⟨w.heap.size + 1, 0, none⟩ = false := by simp [World.frozen?, hO]
  have d1 : wx.cell? ⟨w.heap.size + 1, 1, none⟩ = some (.slice none 0 0) := by simp [World.cell?, hO]
  have df1 : wx.frozen? ⟨w.heap.size + 1, 1, none⟩ = false := by simp [World.frozen?, hO]
  have d2 : wx.cell? ⟨w.heap.size + 1, 2, none⟩ = some (.slice none 0 0) := by simp [World.cell?, hO]
  have df2 : wx.frozen? ⟨w.heap.size + 1, 2, none⟩ = false := by simp [World.frozen?, hO]
  have hr2 := fun vs => hr.box hO (fun v hv => diskish_three v hv rfl rfl rfl) 0 vs
  clear hO hr
  go_wp2
  refine bodyPost_ret (v := .tuple #[.agg #[.int .u64 R, .slice A' n0 c', .slice A1 n1 c1], .int .i64 0]) (by simp [results, Try.results68, go_sem, d0, d1, d2]) rfl ⟨A', c', s', rfl, hr2 [.int .u64 R, .slice A' n0 c', .slice A1 n1 c1], hg, ?_⟩
  exact setAll_ext (g := w.heap.size + 1) (vs := [.int .u64 R, .slice A' n0 c', .slice A1 n1 c1]) (i := 0) hW (by omega)
set_option maxRecDepth 100000 in
set_option maxHeartbeats 4000000 in
theorem rsync_row0 (R : Int) (A0 A1 : Option Addr) (n0 c0 n1 c1 : Nat) (i : Nat) (l : List St) (s : St) (w : World) (hrow : RowV w A0 n0 c0 l) (hs : l[i]? = some s) (hn : n0 ≤ 65536) (hnn : n0 = n1) (hq : s.q ≤ 9223372036854775807) :
  Calls Try.prog 70 #[.agg #[.int .u64 R, .slice A0 n0 c0, .slice A1 n1 c1], .int .i64 0, .int .i64 i] w fun e w' =>
   ∃ (A' : Option Addr) (c' : Nat) (s' : St), e = .returned (.tuple #[.agg #[.int .u64 R, .slice A' n0 c', .slice A1 n1 c1], .int .i64 0]) ∧ RowV w' A' n0 c' (l.set i s') ∧ (s'.q = s.q ∧ s'.k = (s.q : Int) ∧ s'.d = s.d) ∧ Ext w w' := by
 have hil : i < l.length := (List.getElem?_eq_some_iff.1 hs).1
 have hlen := hrow.len
 have hin : i < n0 := by omega
 have hini : (i : Int) < (n0 : Int) := by omega
 clear hnn
 have hrow' := hrow
 obtain ⟨a, rfl, a0, a1, aok⟩ := hrow.at hs
 go_enter Try.func70, Try.ntmps70
 go_upto_region 1 with (fail)
 obtain ⟨hW, hE, hO⟩ := two_boxes7 w (.cells #[.int .u64 R, .slice (some a) n0 c0, .slice A1 n1 c1] 30) (.cells #[.int .u64 0, .slice none 0 0, .slice none 0 0] 30)
 generalize (w.alloc (.cells #[.int .u64 R, .slice (some a) n0 c0, .slice A1 n1 c1] 30)).alloc (.cells #[.int .u64 0, .slice none 0 0, .slice none 0 0] 30) = W at *
 have e0 : W.cell? ⟨w.heap.size, 0, none⟩ = some (.int .u64 R) := by simp [World.cell?, hE]
 have e1 : W.cell? ⟨w.heap.size, 1, none⟩ = some (.slice (some a) n0 c0) := by simp [World.cell?, hE]
 have e2 : W.cell? ⟨w.heap.size, 2, none⟩ = some (.slice A1 n1 c1) := by simp [World.cell?, hE]
 go_wp2_with fail
 refine (ris_any R _ _ n0 c0 n1 c1 0 i _).mono ?_
 rw [isB_row0 hin]
 rintro e w1 ⟨rfl, hx1⟩
 replace hE := heap_ext hE hx1
 replace hO := heap_ext hO hx1
 replace hW := hW.trans hx1
 clear e0 e1 e2 hx1
 go_upto_region 4 with (fail)
 have hX : ∀ wx, Ext w1 wx → wx.cell? ⟨w.heap.size, 0, none⟩ = some (.int .u64 R) ∧ wx.cell? ⟨w.heap.size, 1, none⟩ = some (.slice (some a) n0 c0) ∧ wx.cell? ⟨w.heap.size, 2, none⟩ = some (.slice A1 n1 c1) ∧ wx.cell? (a.add (i * 2)) = some (.slice s.D s.q s.cd) ∧ wx.cell? ⟨(a.add (i * 2)).block, (a.add (i * 2)).off + 1, none⟩ = some (.int .i64 s.k) ∧ Ext w wx := fun wx hx =>
  ⟨hx.cell (by simp [World.cell?, hE]), hx.cell (by simp [World.cell?, hE]), hx.cell (by simp [World.cell?, hE]), (hW.trans hx).cell a0, (hW.trans hx).cell a1, hW.trans hx⟩
 refine' wp_region_sure ⟨((some 16, [], none) :: (some 17, [], none) :: (some 18, [], none) :: (some 19, [], none) :: (some 20, [], none) :: (some 21, [4, 3], none) :: (some 22, [5], none) :: (some 23, [], none) :: (some 24, [6, 7], none) :: (some 25, [8], none) :: (some 26, [9], none) :: (some 27, [0, 1, 2, 10, 10], none) :: (none, [11, 11, 0, 1, 2, 3, 4, 5, 6, 7, 8, 9, 10, 11], none) :: (some 7, [12, 0, 1, 2, 3, 4, 5, 6, 7, 8, 9, 10, 11, 12], none) :: []), (0 :: 0 :: 0 :: 0 :: 0 :: 24 :: 56 :: 0 :: 248 :: 504 :: 1016 :: 2047 :: 4095 :: 8191 :: []), (true :: true :: true :: true :: true :: true :: true :: true :: true :: true :: false :: false :: []), [], 0⟩ 12 28 ((0, 16) :: (1, 17) :: (2, 18) :: (3, 19) :: (4, 20) :: (5, 21) :: (6, 22) :: (7, 23) :: (8, 24) :: (9, 25) :: (10, 26) :: (11, 27) :: []) ((0, 16) :: (1, 17) :: (2, 18) :: (3, 19) :: (4, 20) :: (5, 21) :: (6, 22) :: (7, 23) :: (8, 24) :: (9, 25) :: (10, 26) :: (11, 27) :: []) (.det _ :: .det _ :: .det _ :: .det _ :: .det _ :: .det _ :: .det _ :: .det _ :: .det _ :: .det _ :: Good.of (fun v w => ∃ s' : St, v = .agg #[.slice s'.D s'.q s'.cd, .int .i64 s'.k] ∧ (s'.q = s.q ∧ s'.k = (s.q : Int) ∧ s'.d = s.d) ∧ StOK w s') (fun v w w' h hx => let ⟨s', e, hg, ho⟩ := h; ⟨s', e, hg, ho.ext hx⟩) :: Good.of (fun v w => ∃ (A' : Option Addr) (c' : Nat) (s' : St), v = .agg #[.int .u64 R, .slice A' n0 c', .slice A1 n1 c1] ∧ (s'.q = s.q ∧ s'.k = (s.q : Int) ∧ s'.d = s.d) ∧ RowV w A' n0 c' (l.set i s')) (fun v w w' h hx => let ⟨A', c', s', e, hg, ho⟩ := h; ⟨A', c', s', e, hg, ho.ext hx⟩) :: []) (by kernel_rfl) (by kernel_rfl) (by kernel_rfl) rfl (by kernel_rfl) (by kernel_rfl) rfl ?hone ?hend
 case hone =>
  intro CS frS VS hCS ha hV
  have qs1 := slot_val (t := 1) ha rfl
  simp only [List.getElem_toArray, List.getElem_cons_succ, List.getElem_cons_zero] at qs1
  have qs2 := slot_val (t := 2) ha rfl
  simp only [List.getElem_toArray, List.getElem_cons_succ, List.getElem_cons_zero] at qs2
  have qs3 := slot_val (t := 3) ha rfl
  simp only [List.getElem_toArray, List.getElem_cons_succ, List.getElem_cons_zero] at qs3
  have HCS := Lib.hid hCS
  have HVS := Lib.hid hV
  clear ha hCS hV
  refine sure_det (js := []) (ts := [3]) (gd := none) (place_at HVS.out (k := 0) rfl) (by rw [HCS.out]; kernel_rfl) ?_ ?_
  ·intro wx hx ρ hρ hs hf; have hρc := hρ.const; have hρf := hρ.func
   obtain ⟨fx3, -⟩ := hf; rw [qs3] at fx3
   clear hs
   clear HCS HVS qs1 qs2 qs3
   refine run_plain ?_
   obtain ⟨p0, p1, p2, p3, p4, -⟩ := hX wx hx.drawn
   unfold runs
   go_simp
   exact detK.mk
  refine sure_det (js := []) (ts := [1]) (gd := none) (place_at HVS.out (k := 1) rfl) (by rw [HCS.out]; kernel_rfl) ?_ ?_
  ·intro wx hx ρ hρ hs hf; have hρc := hρ.const; have hρf := hρ.func
   obtain ⟨fx1, -⟩ := hf; rw [qs1] at fx1
   clear hs
   clear HCS HVS qs1 qs2 qs3
   refine run_plain ?_
   refine op_move rfl fx1 ?_
   exact detK.mk
  refine sure_det (js := []) (ts := [2]) (gd := none) (place_at HVS.out (k := 2) rfl) (by rw [HCS.out]; kernel_rfl) ?_ ?_
  ·intro wx hx ρ hρ hs hf; have hρc := hρ.const; have hρf := hρ.func
   obtain ⟨fx2, -⟩ := hf; rw [qs2] at fx2
   clear hs
   clear HCS HVS qs1 qs2 qs3
   refine run_plain ?_
   refine op_move rfl fx2 ?_
   exact detK.mk
  refine sure_det (js := []) (ts := [1]) (gd := none) (place_at HVS.out (k := 3) rfl) (by rw [HCS.out]; kernel_rfl) ?_ ?_
  ·intro wx hx ρ hρ hs hf; have hρc := hρ.const; have hρf := hρ.func
   obtain ⟨fx1, -⟩ := hf; rw [qs1] at fx1
   clear hs
   clear HCS HVS qs1 qs2 qs3
   refine run_plain ?_
   refine op_move rfl fx1 ?_
   exact detK.mk
  refine sure_det (js := []) (ts := [3]) (gd := none) (place_at HVS.out (k := 4) rfl) (by rw [HCS.out]; kernel_rfl) ?_ ?_
  ·intro wx hx ρ hρ hs hf; have hρc := hρ.const; have hρf := hρ.func
   obtain ⟨fx3, -⟩ := hf; rw [qs3] at fx3
   clear hs
   clear HCS HVS qs1 qs2 qs3
   refine run_plain ?_
   unfold runs
   go_simp
   exact detK.mk
  refine sure_det (js := [(4, 20), (3, 19)]) (ts := []) (gd := none) (place_at HVS.out (k := 5) rfl) (by rw [HCS.out]; kernel_rfl) ?_ ?_
  ·intro wx hx ρ hρ hs hf; have hρc := hρ.const; have hρf := hρ.func; obtain ⟨sn4, sn3, -⟩ := hs; rw [place_at HVS.out (k := 4) rfl] at sn4; replace sn4 : ρ (.tmp 20) = _ := sn4; rw [place_at HVS.out (k := 3) rfl] at sn3; replace sn3 : ρ (.tmp 19) = _ := sn3
   clear hf
   clear HCS HVS qs1 qs2 qs3
   refine run_plain ?_
   unfold runs
   go_simp
   exact detK.mk
  refine sure_det (js := [(5, 21)]) (ts := []) (gd := none) (place_at HVS.out (k := 6) rfl) (by rw [HCS.out]; kernel_rfl) ?_ ?_
  ·intro wx hx ρ hρ hs hf; have hρc := hρ.const; have hρf := hρ.func; obtain ⟨sn5, -⟩ := hs; rw [place_at HVS.out (k := 5) rfl] at sn5; replace sn5 : ρ (.tmp 21) = _ := sn5
   clear hf
   clear HCS HVS qs1 qs2 qs3
   refine run_plain ?_
   obtain ⟨p0, p1, p2, p3, p4, -⟩ := hX wx hx.drawn
   unfold runs
   go_simp
   exact detK.mk
  refine sure_det (js := []) (ts := [2]) (gd := none) (place_at HVS.out (k := 7) rfl) (by rw [HCS.out]; kernel_rfl) ?_ ?_
  ·intro wx hx ρ hρ hs hf; have hρc := hρ.const; have hρf := hρ.func
   obtain ⟨fx2, -⟩ := hf; rw [qs2] at fx2
   clear hs
   clear HCS HVS qs1 qs2 qs3
   refine run_plain ?_
   refine op_move rfl fx2 ?_
   exact detK.mk
  refine sure_det (js := [(6, 22), (7, 23)]) (ts := []) (gd := none) (place_at HVS.out (k := 8) rfl) (by rw [HCS.out]; kernel_rfl) ?_ ?_
  ·intro wx hx ρ hρ hs hf; have hρc := hρ.const; have hρf := hρ.func; obtain ⟨sn6, sn7, -⟩ := hs; rw [place_at HVS.out (k := 6) rfl] at sn6; replace sn6 : ρ (.tmp 22) = _ := sn6; rw [place_at HVS.out (k := 7) rfl] at sn7; replace sn7 : ρ (.tmp 23) = _ := sn7
   clear hf
   clear HCS HVS qs1 qs2 qs3
   refine run_plain ?_
   unfold runs
   go_simp
   exact detK.mk
  refine sure_det (js := [(8, 24)]) (ts := []) (gd := none) (place_at HVS.out (k := 9) rfl) (by rw [HCS.out]; kernel_rfl) ?_ ?_
  ·intro wx hx ρ hρ hs hf; have hρc := hρ.const; have hρf := hρ.func; obtain ⟨sn8, -⟩ := hs; rw [place_at HVS.out (k := 8) rfl] at sn8; replace sn8 : ρ (.tmp 24) = _ := sn8
   clear hf
   clear HCS HVS qs1 qs2 qs3
   refine run_plain ?_
   obtain ⟨p0, p1, p2, p3, p4, -⟩ := hX wx hx.drawn
   unfold runs
   go_simp
   exact detK.mk
  refine sure_op (js := [(9, 25)]) (ts := []) (gd := none) (place_at HVS.out (k := 10) rfl) (by rw [HCS.out]; kernel_rfl) ?_ ?_
  ·intro wx hx ρ hρ hs hf; have hρc := hρ.const; have hρf := hρ.func; obtain ⟨sn9, -⟩ := hs; rw [place_at HVS.out (k := 9) rfl] at sn9; replace sn9 : ρ (.tmp 25) = _ := sn9
   clear hf
   clear HCS HVS qs1 qs2 qs3
   refine run_plain ?_
   refine op_call rfl hρ Try.call47 (map_one sn9) ?_
   refine Calls.mono (rsync_any s.D s.q s.cd s.k hq _) ?_
   rintro e w' ⟨rfl, hx5⟩
   exact ⟨_, rfl, hx5, ⟨s.D, s.q, s.cd, (s.q : Int), s.d⟩, rfl, ⟨rfl, rfl, rfl⟩, (StOK.ext aok (hX _ hx.drawn).2.2.2.2.2).ext hx5⟩
  refine sure_op (js := [(0, 16), (1, 17), (2, 18), (10, 26)]) (ts := []) (gd := none) (place_at HVS.out (k := 11) rfl) (by rw [HCS.out]; kernel_rfl) ?_ ?_
  ·intro wx hx ρ hρ hs hf; have hρc := hρ.const; have hρf := hρ.func; obtain ⟨sn0, sn1, sn2, sn10, -⟩ := hs; rw [place_at HVS.out (k := 0) rfl] at sn0; replace sn0 : ρ (.tmp 16) = _ := sn0; rw [place_at HVS.out (k := 1) rfl] at sn1; replace sn1 : ρ (.tmp 17) = _ := sn1; rw [place_at HVS.out (k := 2) rfl] at sn2; replace sn2 : ρ (.tmp 18) = _ := sn2; rw [place_at HVS.out (k := 10) rfl] at sn10; replace sn10 : ∃ s' : St, (ρ (.tmp 26)) = .agg #[.slice s'.D s'.q s'.cd, .int .i64 s'.k] ∧ (s'.q = s.q ∧ s'.k = (s.q : Int) ∧ s'.d = s.d) ∧ StOK wx s' := sn10
   clear hf
   clear HCS HVS qs1 qs2 qs3
   refine run_plain ?_
   obtain ⟨s', e11, hg, ho⟩ := sn10
   refine op_call rfl hρ Try.call94 (map_four sn0 sn1 sn2 e11) ?_
   refine Calls.mono (rwith_row0 R _ _ n0 c0 n1 c1 i l s s' _ (hrow'.ext (hX _ hx.drawn).2.2.2.2.2) hs ho hn) ?_
   rintro e w' ⟨A', c', rfl, hr, hx5⟩
   exact ⟨_, rfl, hx5, A', c', s', rfl, hg, hr⟩
  exact trivial
 case hend =>
  intro xs wx hx hg
  have gk0 : xs 0 = _ := goods_get hg (i := 0) (j := 0) (d := 16) rfl
  have gk1 : xs 1 = _ := goods_get hg (i := 1) (j := 1) (d := 17) rfl
  have gk2 : xs 2 = _ := goods_get hg (i := 2) (j := 2) (d := 18) rfl
  have gk3 : xs 3 = _ := goods_get hg (i := 3) (j := 3) (d := 19) rfl
  have gk4 : xs 4 = _ := goods_get hg (i := 4) (j := 4) (d := 20) rfl
  have gk5 : xs 5 = _ := goods_get hg (i := 5) (j := 5) (d := 21) rfl
  have gk6 : xs 6 = _ := goods_get hg (i := 6) (j := 6) (d := 22) rfl
  have gk7 : xs 7 = _ := goods_get hg (i := 7) (j := 7) (d := 23) rfl
  have gk8 : xs 8 = _ := goods_get hg (i := 8) (j := 8) (d := 24) rfl
  have gk9 : xs 9 = _ := goods_get hg (i := 9) (j := 9) (d := 25) rfl
  have gk10 : ∃ s' : St, (xs 10) = .agg #[.slice s'.D s'.q s'.cd, .int .i64 s'.k] ∧ (s'.q = s.q ∧ s'.k = (s.q : Int) ∧ s'.d = s.d) ∧ StOK wx s' := goods_get hg (i := 10) (j := 10) (d := 26) rfl
  have gk11 : ∃ (A' : Option Addr) (c' : Nat) (s' : St), (xs 11) = .agg #[.int .u64 R, .slice A' n0 c', .slice A1 n1 c1] ∧ (s'.q = s.q ∧ s'.k = (s.q : Int) ∧ s'.d = s.d) ∧ RowV wx A' n0 c' (l.set i s') := goods_get hg (i := 11) (j := 11) (d := 27) rfl
  clear hg
  simp only [putAll, gk0, gk1, gk2, gk3, gk4, gk5, gk6, gk7, gk8, gk9]
  clear gk0 gk1 gk2 gk3 gk4 gk5 gk6 gk7 gk8 gk9
  generalize xs 10 = vx10 at gk10 ⊢
  generalize xs 11 = vx11 at gk11 ⊢
  clear xs
  simp only [Act.put, List.setIfInBounds_toArray, List.set_cons_zero, List.set_cons_succ, List.drop_succ_cons, List.drop_zero]
  obtain ⟨A', c', s', e12, hg, hr⟩ := gk11
  have hxx : Ext w1 wx := hx.drawn
  replace hO := heap_ext hO hxx
  replace hW := hW.trans hxx
  clear hX hE hx hxx
  subst e12
  have d0 : wx.cell? ⟨w.heap.size + 1, 0, none⟩ = some (.int .u64 0) := by simp [World.cell?, hO]
  have df0 : wx.frozen? ⟨w.heap.size + 1, 0, none⟩ = false := by simp [World.frozen?, hO]
  have d1 : wx.cell? ⟨w.heap.size + 1, 1, none⟩ = some (.slice none 0 0) := by simp [World.cell?, hO]
  have df1 : wx.frozen? ⟨w.heap.size + 1, 1, none⟩ = false := by simp [World.frozen?, hO]
  have d2 : wx.cell? ⟨w.heap.size + 1, 2, none⟩ = some (.slice none 0 0) := by simp [World.cell?, hO]
  have df2 : wx.frozen? ⟨w.heap.size + 1, 2, none⟩ = false := by simp [World.frozen?, hO]
  have hr2 := fun vs => hr.box hO (fun v hv => diskish_three v hv rfl rfl rfl) 0 vs
  clear hO hr
  go_wp2
  refine bodyPost_ret (v := .tuple #[.agg #[.int .u64 R, .slice A' n0 c', .slice A1 n1 c1], .int .i64 0]) (by simp [results, Try.results70, go_sem, d0, d1, d2]) rfl ⟨A', c', s', rfl, hr2 [.int .u64 R, .slice A' n0 c', .slice A1 n1 c1], hg, ?_⟩
  exact setAll_ext (g := w.heap.size + 1) (vs := [.int .u64 R, .slice A' n0 c', .slice A1 n1 c1]) (i := 0) hW (by omega)
set_option maxRecDepth 100000 in
set_option maxHeartbeats 1000000 in
theorem rread_row0 (R : Int) (A0 A1 : Option Addr) (n0 c0 n1 c1 : Nat) (i : Nat) (l : List St) (s : St) (w : World) (hrow : RowV w A0 n0 c0 l) (hs : l[i]? = some s) (hnn : n0 = n1) :
  Calls Try.prog 72 #[.agg #[.int .u64 R, .slice A0 n0 c0, .slice A1 n1 c1], .int .i64 0, .int .i64 i] w fun e w' =>
   ∃ (A' : Option Addr) (c' : Nat), e = .returned (.tuple #[.slice A' s.q c', .int .i64 0]) ∧ BytesV w' A' s.q c' s.d ∧ Ext w w' := by
 have hil : i < l.length := (List.getElem?_eq_some_iff.1 hs).1
 have hlen := hrow.len
 have hin : i < n0 := by omega
 have hini : (i : Int) < (n0 : Int) := by omega
 clear hnn
 obtain ⟨a, rfl, a0, a1, aok⟩ := hrow.at hs
 have hW : Ext w (w.alloc (.cells #[.int .u64 R, .slice (some a) n0 c0, .slice A1 n1 c1] 30)) := (Below.refl _ w).alloc (Nat.le_refl _) _
 have hE : (w.alloc (.cells #[.int .u64 R, .slice (some a) n0 c0, .slice A1 n1 c1] 30)).heap[w.heap.size]? = some (.cells #[.int .u64 R, .slice (some a) n0 c0, .slice A1 n1 c1] 30 (0, 0)) := heap_alloc_new w _
 go_enter Try.func72, Try.ntmps72
 go_upto_region 1 with (fail)
 generalize w.alloc (.cells #[.int .u64 R, .slice (some a) n0 c0, .slice A1 n1 c1] 30) = W at *
 have e0 : W.cell? ⟨w.heap.size, 0, none⟩ = some (.int .u64 R) := by simp [World.cell?, hE]
 have e1 : W.cell? ⟨w.heap.size, 1, none⟩ = some (.slice (some a) n0 c0) := by simp [World.cell?, hE]
 have e2 : W.cell? ⟨w.heap.size, 2, none⟩ = some (.slice A1 n1 c1) := by simp [World.cell?, hE]
 go_wp2_with fail
 refine (ris_any R _ _ n0 c0 n1 c1 0 i _).mono ?_
 rw [isB_row0 hin]
 rintro e w1 ⟨rfl, hx1⟩
 replace hE := heap_ext hE hx1
 replace hW := hW.trans hx1
 replace a0 := hW.cell a0
 clear e0 e1 e2 hx1
 have e0 : w1.cell? ⟨w.heap.size, 0, none⟩ = some (.int .u64 R) := by simp [World.cell?, hE]
 have e1 : w1.cell? ⟨w.heap.size, 1, none⟩ = some (.slice (some a) n0 c0) := by simp [World.cell?, hE]
 have e2 : w1.cell? ⟨w.heap.size, 2, none⟩ = some (.slice A1 n1 c1) := by simp [World.cell?, hE]
 clear hE
 go_wp2
 refine bodyPost_ret (v := .tuple #[.slice s.D s.q s.cd, .int .i64 0]) (by simp [results, Try.results72, go_sem]) rfl ⟨s.D, s.cd, rfl, StOK.ext aok hW, hW⟩
set_option maxRecDepth 100000 in
set_option maxHeartbeats 1000000 in
theorem rclear_row0 (R : Int) (A0 A1 : Option Addr) (n0 c0 n1 c1 : Nat) (w : World) (hn : n0 ≤ 65536) :
  Calls Try.prog 74 #[.agg #[.int .u64 R, .slice A0 n0 c0, .slice A1 n1 c1], .int .i64 0] w fun e w' =>
   ∃ (A' : Option Addr) (c' : Nat), e = .returned (.tuple #[.agg #[.int .u64 R, .slice A' n0 c', .slice A1 n1 c1], .int .i64 0]) ∧ RowV w' A' n0 c' (List.replicate n0 St.zero) ∧ Ext w w' := by
 have hmk := run_mkrow n0 (by omega)
 go_enter Try.func74, Try.ntmps74
 go_upto_region 1 with (fail)
 obtain ⟨hW, hE, hO⟩ := two_boxes7 w (.cells #[.int .u64 R, .slice A0 n0 c0, .slice A1 n1 c1] 30) (.cells #[.int .u64 0, .slice none 0 0, .slice none 0 0] 30)
 generalize (w.alloc (.cells #[.int .u64 R, .slice A0 n0 c0, .slice A1 n1 c1] 30)).alloc (.cells #[.int .u64 0, .slice none 0 0, .slice none 0 0] 30) = w1 at *
 have hlt : w.heap.size + 1 < w1.heap.size := (Array.getElem?_eq_some_iff.1 hO).1
 have e0 : w1.cell? ⟨w.heap.size, 0, none⟩ = some (.int .u64 R) := by simp [World.cell?, hE]
 have ef0 : w1.frozen? ⟨w.heap.size, 0, none⟩ = false := by simp [World.frozen?, hE]
 have e1 : w1.cell? ⟨w.heap.size, 1, none⟩ = some (.slice A0 n0 c0) := by simp [World.cell?, hE]
 have ef1 : w1.frozen? ⟨w.heap.size, 1, none⟩ = false := by simp [World.frozen?, hE]
 have e2 : w1.cell? ⟨w.heap.size, 2, none⟩ = some (.slice A1 n1 c1) := by simp [World.cell?, hE]
 have ef2 : w1.frozen? ⟨w.heap.size, 2, none⟩ = false := by simp [World.frozen?, hE]
 have hne1 : ¬ w.heap.size = w1.heap.size := by omega
 have hlt1 : w.heap.size < w1.heap.size := by omega
 go_upto_region 4 with (fail)
 clear hne1 hlt1
 generalize hC : (rowCells (List.replicate n0 St.zero)).toArray = C at *
 clear e0 e1 e2 ef0 ef1 ef2 hmk
 have hsU' : ∀ p u, (w1.setCell p u).heap.size = w1.heap.size := fun p u => by simp [World.setCell]
 generalize w1.heap.size = gz at *
 have hE2 : (w1.setCell ⟨w.heap.size, 1, none⟩ (.slice (some ⟨gz, 0, none⟩) n0 n0)).heap[w.heap.size]? = some (.cells #[.int .u64 R, .slice (some ⟨gz, 0, none⟩) n0 n0, .slice A1 n1 c1] 30 (0, 0)) := heap_setCell_at hE
 have hO2 : (w1.setCell ⟨w.heap.size, 1, none⟩ (.slice (some ⟨gz, 0, none⟩) n0 n0)).heap[w.heap.size + 1]? = some (.cells #[.int .u64 0, .slice none 0 0, .slice none 0 0] 30 (0, 0)) := (Below.heap_setCell _ _ _ _ (by simp <;> omega)).trans hO
 have hsU : (w1.setCell ⟨w.heap.size, 1, none⟩ (.slice (some ⟨gz, 0, none⟩) n0 n0)).heap.size = gz := hsU' _ _
 have hW2 : Ext w (w1.setCell ⟨w.heap.size, 1, none⟩ (.slice (some ⟨gz, 0, none⟩) n0 n0)) := hW.setCell (Nat.le_refl _) _
 generalize w1.setCell ⟨w.heap.size, 1, none⟩ (.slice (some ⟨gz, 0, none⟩) n0 n0) = U at *
 have hx3 : Ext U (U.alloc (.cells C 90)) := (Below.refl _ U).alloc (Nat.le_refl _) _
 have hZ3 : (U.alloc (.cells C 90)).heap[gz]? = some (.cells C 90 (0, 0)) := by rw [← hsU]; exact heap_alloc_new U _
 have hE3 := heap_ext hE2 hx3
 have hO3 := heap_ext hO2 hx3
 have hW3 := hW2.trans hx3
 clear hx3
 generalize U.alloc (.cells C 90) = W3 at *
 have e0 : W3.cell? ⟨w.heap.size, 0, none⟩ = some (.int .u64 R) := by simp [World.cell?, hE3]
 have e1 : W3.cell? ⟨w.heap.size, 1, none⟩ = some (.slice (some ⟨gz, 0, none⟩) n0 n0) := by simp [World.cell?, hE3]
 have e2 : W3.cell? ⟨w.heap.size, 2, none⟩ = some (.slice A1 n1 c1) := by simp [World.cell?, hE3]
 have d0 : W3.cell? ⟨w.heap.size + 1, 0, none⟩ = some (.int .u64 0) := by simp [World.cell?, hO3]
 have df0 : W3.frozen? ⟨w.heap.size + 1, 0, none⟩ = false := by simp [World.frozen?, hO3]
 have d1 : W3.cell? ⟨w.heap.size + 1, 1, none⟩ = some (.slice none 0 0) := by simp [World.cell?, hO3]
 have df1 : W3.frozen? ⟨w.heap.size + 1, 1, none⟩ = false := by simp [World.frozen?, hO3]
 have d2 : W3.cell? ⟨w.heap.size + 1, 2, none⟩ = some (.slice none 0 0) := by simp [World.cell?, hO3]
 have df2 : W3.frozen? ⟨w.heap.size + 1, 2, none⟩ = false := by simp [World.frozen?, hO3]
 clear hE3 hO3 hE hO hE2 hO2
 go_wp2
 refine bodyPost_ret (v := .tuple #[.agg #[.int .u64 R, .slice (some ⟨gz, 0, none⟩) n0 n0, .slice A1 n1 c1], .int .i64 0]) (by simp [results, Try.results74, go_sem, d0, d1, d2]) rfl ⟨_, _, rfl, RowV.made (fr := (0, 0)) (T := 90) ?_ (by simp) (by omega) zero_ok, ?_⟩
 ·rw [hC]
  exact (setAll_other (g := w.heap.size + 1) (k := gz) (by omega) [.int .u64 R, .slice (some ⟨gz, 0, none⟩) n0 n0, .slice A1 n1 c1] 0 W3).trans hZ3
 ·exact setAll_ext (g := w.heap.size + 1) (vs := [.int .u64 R, .slice (some ⟨gz, 0, none⟩) n0 n0, .slice A1 n1 c1]) (i := 0) hW3 (by omega)
set_option maxRecDepth 100000 in
set_option maxHeartbeats 4000000 in
/-- a disk with another stream -/
theorem rwith_row1 (R : Int) (A0 A1 : Option Addr) (n0 c0 n1 c1 : Nat) (i : Nat) (l : List St) (s s' : St) (w : World) (hrow : RowV w A1 n1 c1 l) (hs : l[i]? = some s) (hs' : StOK w s') (hn : n1 ≤ 65536) :
  Calls Try.prog 94 #[.agg #[.int .u64 R, .slice A0 n0 c0, .slice A1 n1 c1], .int .i64 1, .int .i64 i, .agg #[.slice s'.D s'.q s'.cd, .int .i64 s'.k]] w fun e w' =>
   ∃ (A' : Option Addr) (c' : Nat), e = .returned (.agg #[.int .u64 R, .slice A0 n0 c0, .slice A' n1 c']) ∧ RowV w' A' n1 c' (l.set i s') ∧ Ext w w' := by
 obtain ⟨i0, hi0, hz0, hz1, hz2⟩ := info_parts info_stream
 have hbs : ∀ W : World, (Instr.buildSlice 27 0 #[]).run Try.prog W = .ok (.slice (some ⟨W.heap.size, 0, none⟩) 0 0) (W.alloc (.cells #[] 90)) := fun _ => by kernel_rfl
 have hil : i < l.length := (List.getElem?_eq_some_iff.1 hs).1
 have hlen := hrow.len
 have hini : (i : Int) < (n1 : Int) := by omega
 go_enter Try.func94, Try.ntmps94
 go_upto_region 1 with (fail)
 obtain ⟨hW, -, hE, hG, hO⟩ := three_boxes7 w (.cells #[.int .u64 R, .slice A0 n0 c0, .slice A1 n1 c1] 30) (.cells #[.slice s'.D s'.q s'.cd, .int .i64 s'.k] 90) (.cells #[.int .u64 0, .slice none 0 0, .slice none 0 0] 30)
 generalize ((w.alloc (.cells #[.int .u64 R, .slice A0 n0 c0, .slice A1 n1 c1] 30)).alloc (.cells #[.slice s'.D s'.q s'.cd, .int .i64 s'.k] 90)).alloc (.cells #[.int .u64 0, .slice none 0 0, .slice none 0 0] 30) = W at *
 have hlt : w.heap.size + 1 + 1 < W.heap.size := (Array.getElem?_eq_some_iff.1 hO).1
 have hown0 := own_start W
 have hWa : Ext W (W.alloc (.cells #[] 90)) := (Below.refl _ W).alloc (Nat.le_refl _) _
 have e2 : (W.alloc (.cells #[] 90)).cell? ⟨w.heap.size, 2, none⟩ = some (.slice A1 n1 c1) := hWa.cell (by simp [World.cell?, hE])
 go_upto_region 2 with (at_builtin; refine wpList_append_own_any rfl (.tmp 10) (.tmp 14) _ _ rfl W.heap.size i0 _ 2 32 Try.underlying27 hi0 hz0 hz1 hz2 rfl (by decide) _ 0 [] rfl hown0 A1 n1 c1 (rowCells l) rfl (by rw [rowCells_length, hlen]) (hrow.cells.ext (hW.trans hWa)) hrow.none0 (rowCells_one _) (by simp only [maxLen]; omega) (by omega) (by simp) ?_; intro v1 w1 hown1 hb1)
 try simp only [Nat.zero_add, List.nil_append] at hown1
 have hx1 : Ext W w1 := Below.trans hWa hb1
 replace hE := heap_ext hE hx1
 replace hG := heap_ext hG hx1
 replace hO := heap_ext hO hx1
 replace hW := hW.trans hx1
 have hor : OwnR w1 W.heap.size v1 n1 l := ⟨hown1, fun x hx => (hrow.ok x hx).ext hW⟩
 obtain ⟨gc, cc, rfl, hgb, hglt, hncc, q0, q1, qf0, qf1, hset⟩ := hor.at hs
 clear e2 hown1 hb1 hx1 hown0 hWa hor
 have hgw : w.heap.size + 1 + 1 < gc := by omega
 clear hlt hgb
 have b0 : w1.cell? ⟨w.heap.size + 1, 0, none⟩ = some (.slice s'.D s'.q s'.cd) := by simp [World.cell?, hG]
 have b1 : w1.cell? ⟨w.heap.size + 1, 1, none⟩ = some (.int .i64 s'.k) := by simp [World.cell?, hG]
 go_upto_region 3 with (fail)
 have hX3 : Ext w ((w1.setCell ⟨gc, i * 2, none⟩ (.slice s'.D s'.q s'.cd)).setCell ⟨gc, i * 2 + 1, none⟩ (.int .i64 s'.k)) := Ext.trans (show Ext w (w1.setCell ⟨gc, i * 2, none⟩ _) from hW.setCell (show w.heap.size ≤ gc by omega) _) (Ext.refl _) |>.setCell (show w.heap.size ≤ gc by omega) _
 have hnew := hset s' ((w1.setCell ⟨gc, i * 2, none⟩ (.slice s'.D s'.q s'.cd)).setCell ⟨gc, i * 2 + 1, none⟩ (.int .i64 s'.k)) (fun x hx' => by
   rcases List.mem_cons.1 hx' with rfl | hx'
   ·exact hs'.ext hX3
   ·exact (hrow.ok x hx').ext hX3) rfl
 replace hE : ((w1.setCell ⟨gc, i * 2, none⟩ (.slice s'.D s'.q s'.cd)).setCell ⟨gc, i * 2 + 1, none⟩ (.int .i64 s'.k)).heap[w.heap.size]? = some (.cells #[.int .u64 R, .slice A0 n0 c0, .slice A1 n1 c1] 30 (0, 0)) := by
  rw [Below.heap_setCell _ _ _ _ (by simp; omega), Below.heap_setCell _ _ _ _ (by simp; omega)]; exact hE
 replace hO : ((w1.setCell ⟨gc, i * 2, none⟩ (.slice s'.D s'.q s'.cd)).setCell ⟨gc, i * 2 + 1, none⟩ (.int .i64 s'.k)).heap[w.heap.size + 1 + 1]? = some (.cells #[.int .u64 0, .slice none 0 0, .slice none 0 0] 30 (0, 0)) := by
  rw [Below.heap_setCell _ _ _ _ (by simp; omega), Below.heap_setCell _ _ _ _ (by simp; omega)]; exact hO
 clear q0 q1 qf0 qf1 hset b0 b1 hG hW
 generalize (w1.setCell ⟨gc, i * 2, none⟩ (.slice s'.D s'.q s'.cd)).setCell ⟨gc, i * 2 + 1, none⟩ (.int .i64 s'.k) = W3 at *
 have e0 : W3.cell? ⟨w.heap.size, 0, none⟩ = some (.int .u64 R) := by simp [World.cell?, hE]
 have ef0 : W3.frozen? ⟨w.heap.size, 0, none⟩ = false := by simp [World.frozen?, hE]
 have e1 : W3.cell? ⟨w.heap.size, 1, none⟩ = some (.slice A0 n0 c0) := by simp [World.cell?, hE]
 have ef1 : W3.frozen? ⟨w.heap.size, 1, none⟩ = false := by simp [World.frozen?, hE]
 have e2 : W3.cell? ⟨w.heap.size, 2, none⟩ = some (.slice A1 n1 c1) := by simp [World.cell?, hE]
 have ef2 : W3.frozen? ⟨w.heap.size, 2, none⟩ = false := by simp [World.frozen?, hE]
 go_upto_region 4 with (fail)
 have hX4 : Ext w (W3.setCell ⟨w.heap.size, 2, none⟩ (.slice (some ⟨gc, 0, none⟩) n1 cc)) := hX3.setCell (Nat.le_refl _) _
 have hE4 : (W3.setCell ⟨w.heap.size, 2, none⟩ (.slice (some ⟨gc, 0, none⟩) n1 cc)).heap[w.heap.size]? = some (.cells #[.int .u64 R, .slice A0 n0 c0, .slice (some ⟨gc, 0, none⟩) n1 cc] 30 (0, 0)) := heap_setCell_at hE
 have hO4 : (W3.setCell ⟨w.heap.size, 2, none⟩ (.slice (some ⟨gc, 0, none⟩) n1 cc)).heap[w.heap.size + 1 + 1]? = some (.cells #[.int .u64 0, .slice none 0 0, .slice none 0 0] 30 (0, 0)) := (Below.heap_setCell _ _ _ _ (by simp <;> omega)).trans hO
 have hown4 := hnew.other (p := ⟨w.heap.size, 2, none⟩) (u := .slice (some ⟨gc, 0, none⟩) n1 cc) (by simp; omega) (fun x hx => by
  rcases List.mem_or_eq_of_mem_set hx with h' | h'
  ·exact (hrow.ok x h').ext hX4
  ·subst h'; exact hs'.ext hX4)
 clear e0 e1 e2 ef0 ef1 ef2 hE hO hX3 hnew
 generalize W3.setCell ⟨w.heap.size, 2, none⟩ (.slice (some ⟨gc, 0, none⟩) n1 cc) = W4 at *
 obtain ⟨A', c', hv, hr⟩ := hown4.form
 cases hv
 have hr2 := fun vs => hr.box hO4 (fun v hv => diskish_three v hv rfl rfl rfl) 0 vs
 have e0 : W4.cell? ⟨w.heap.size, 0, none⟩ = some (.int .u64 R) := by simp [World.cell?, hE4]
 have e1 : W4.cell? ⟨w.heap.size, 1, none⟩ = some (.slice A0 n0 c0) := by simp [World.cell?, hE4]
 have e2 : W4.cell? ⟨w.heap.size, 2, none⟩ = some (.slice (some ⟨gc, 0, none⟩) n1 cc) := by simp [World.cell?, hE4]
 have d0 : W4.cell? ⟨w.heap.size + 1 + 1, 0, none⟩ = some (.int .u64 0) := by simp [World.cell?, hO4]
 have df0 : W4.frozen? ⟨w.heap.size + 1 + 1, 0, none⟩ = false := by simp [World.frozen?, hO4]
 have d1 : W4.cell? ⟨w.heap.size + 1 + 1, 1, none⟩ = some (.slice none 0 0) := by simp [World.cell?, hO4]
 have df1 : W4.frozen? ⟨w.heap.size + 1 + 1, 1, none⟩ = false := by simp [World.frozen?, hO4]
 have d2 : W4.cell? ⟨w.heap.size + 1 + 1, 2, none⟩ = some (.slice none 0 0) := by simp [World.cell?, hO4]
 have df2 : W4.frozen? ⟨w.heap.size + 1 + 1, 2, none⟩ = false := by simp [World.frozen?, hO4]
 clear hE4 hO4 hown4 hr
 go_wp2
 refine bodyPost_ret (v := .agg #[.int .u64 R, .slice A0 n0 c0, .slice (some ⟨gc, 0, none⟩) n1 cc]) (by simp [results, Try.results94, go_sem, d0, d1, d2]) rfl ⟨_, _, rfl, hr2 [.int .u64 R, .slice A0 n0 c0, .slice (some ⟨gc, 0, none⟩) n1 cc], ?_⟩
 exact setAll_ext (g := w.heap.size + 1 + 1) (vs := [.int .u64 R, .slice A0 n0 c0, .slice (some ⟨gc, 0, none⟩) n1 cc]) (i := 0) hX4 (by omega)
set_option maxRecDepth 100000 in
set_option maxHeartbeats 4000000 in
theorem rappend_row1 (R : Int) (A0 A1 : Option Addr) (n0 c0 n1 c1 : Nat) (i : Nat) (l : List St) (s : St) (B : Option Addr) (m c2 : Nat) (b : List UInt8) (w : World) (hrow : RowV w A1 n1 c1 l) (hs : l[i]? = some s) (hn : n1 ≤ 65536) (hnn : n0 = n1)
  (hB : BytesV w B m c2 b) (hm : s.q + m ≤ 65536) :
  Calls Try.prog 68 #[.agg #[.int .u64 R, .slice A0 n0 c0, .slice A1 n1 c1], .int .i64 1, .int .i64 i, .slice B m c2] w fun e w' =>
   ∃ (A' : Option Addr) (c' : Nat) (s' : St), e = .returned (.tuple #[.agg #[.int .u64 R, .slice A0 n0 c0, .slice A' n1 c'], .int .i64 0]) ∧ RowV w' A' n1 c' (l.set i s') ∧ (s'.q = s.q + m ∧ s'.k = s.k ∧ s'.d = s.d ++ b) ∧ Ext w w' := by
 have hil : i < l.length := (List.getElem?_eq_some_iff.1 hs).1
 have hlen := hrow.len
 have hin : i < n0 := by omega
 have hini : (i : Int) < (n1 : Int) := by omega
 clear hnn
 have hrow' := hrow
 obtain ⟨a, rfl, a0, a1, aok⟩ := hrow.at hs
 go_enter Try.func68, Try.ntmps68
 go_upto_region 1 with (fail)
 obtain ⟨hW, hE, hO⟩ := two_boxes7 w (.cells #[.int .u64 R, .slice A0 n0 c0, .slice (some a) n1 c1] 30) (.cells #[.int .u64 0, .slice none 0 0, .slice none 0 0] 30)
 generalize (w.alloc (.cells #[.int .u64 R, .slice A0 n0 c0, .slice (some a) n1 c1] 30)).alloc (.cells #[.int .u64 0, .slice none 0 0, .slice none 0 0] 30) = W at *
 have e0 : W.cell? ⟨w.heap.size, 0, none⟩ = some (.int .u64 R) := by simp [World.cell?, hE]
 have e1 : W.cell? ⟨w.heap.size, 1, none⟩ = some (.slice A0 n0 c0) := by simp [World.cell?, hE]
 have e2 : W.cell? ⟨w.heap.size, 2, none⟩ = some (.slice (some a) n1 c1) := by simp [World.cell?, hE]
 go_wp2_with fail
 refine (ris_any R _ _ n0 c0 n1 c1 1 i _).mono ?_
 rw [isB_row1 hin]
 rintro e w1 ⟨rfl, hx1⟩
 replace hE := heap_ext hE hx1
 replace hO := heap_ext hO hx1
 replace hW := hW.trans hx1
 clear e0 e1 e2 hx1
 go_upto_region 4 with (fail)
 have hX : ∀ wx, Ext w1 wx → wx.cell? ⟨w.heap.size, 0, none⟩ = some (.int .u64 R) ∧ wx.cell? ⟨w.heap.size, 1, none⟩ = some (.slice A0 n0 c0) ∧ wx.cell? ⟨w.heap.size, 2, none⟩ = some (.slice (some a) n1 c1) ∧ wx.cell? (a.add (i * 2)) = some (.slice s.D s.q s.cd) ∧ wx.cell? ⟨(a.add (i * 2)).block, (a.add (i * 2)).off + 1, none⟩ = some (.int .i64 s.k) ∧ Ext w wx := fun wx hx =>
  ⟨hx.cell (by simp [World.cell?, hE]), hx.cell (by simp [World.cell?, hE]), hx.cell (by simp [World.cell?, hE]), (hW.trans hx).cell a0, (hW.trans hx).cell a1, hW.trans hx⟩
 refine' wp_region_sure ⟨((some 18, [], none) :: (some 19, [], none) :: (some 20, [], none) :: (some 21, [], none) :: (some 22, [], none) :: (some 23, [4, 3], none) :: (some 24, [5], none) :: (some 25, [], none) :: (some 26, [6, 7], none) :: (some 27, [8], none) :: (some 28, [], none) :: (some 29, [9, 10], none) :: (some 30, [0, 1, 2, 11, 11], none) :: (none, [12, 12, 0, 1, 2, 3, 4, 5, 6, 7, 8, 9, 10, 11, 12], none) :: (some 9, [13, 0, 1, 2, 3, 4, 5, 6, 7, 8, 9, 10, 11, 12, 13], none) :: []), (0 :: 0 :: 0 :: 0 :: 0 :: 24 :: 56 :: 0 :: 248 :: 504 :: 0 :: 2040 :: 4095 :: 8191 :: 16383 :: []), (true :: true :: true :: true :: true :: true :: true :: true :: true :: true :: true :: false :: false :: []), [], 0⟩ 13 31 ((0, 18) :: (1, 19) :: (2, 20) :: (3, 21) :: (4, 22) :: (5, 23) :: (6, 24) :: (7, 25) :: (8, 26) :: (9, 27) :: (10, 28) :: (11, 29) :: (12, 30) :: []) ((0, 18) :: (1, 19) :: (2, 20) :: (3, 21) :: (4, 22) :: (5, 23) :: (6, 24) :: (7, 25) :: (8, 26) :: (9, 27) :: (10, 28) :: (11, 29) :: (12, 30) :: []) (.det _ :: .det _ :: .det _ :: .det _ :: .det _ :: .det _ :: .det _ :: .det _ :: .det _ :: .det _ :: .det _ :: Good.of (fun v w => ∃ s' : St, v = .agg #[.slice s'.D s'.q s'.cd, .int .i64 s'.k] ∧ (s'.q = s.q + m ∧ s'.k = s.k ∧ s'.d = s.d ++ b) ∧ StOK w s') (fun v w w' h hx => let ⟨s', e, hg, ho⟩ := h; ⟨s', e, hg, ho.ext hx⟩) :: Good.of (fun v w => ∃ (A' : Option Addr) (c' : Nat) (s' : St), v = .agg #[.int .u64 R, .slice A0 n0 c0, .slice A' n1 c'] ∧ (s'.q = s.q + m ∧ s'.k = s.k ∧ s'.d = s.d ++ b) ∧ RowV w A' n1 c' (l.set i s')) (fun v w w' h hx => let ⟨A', c', s', e, hg, ho⟩ := h; ⟨A', c', s', e, hg, ho.ext hx⟩) :: []) (by kernel_rfl) (by kernel_rfl) (by kernel_rfl) rfl (by kernel_rfl) (by kernel_rfl) rfl ?hone ?hend
 case hone =>
  intro CS frS VS hCS ha hV
  have qs1 := slot_val (t := 1) ha rfl
  simp only [List.getElem_toArray, List.getElem_cons_succ, List.getElem_cons_zero] at qs1
  have qs2 := slot_val (t := 2) ha rfl
  simp only [List.getElem_toArray, List.getElem_cons_succ, List.getElem_cons_zero] at qs2
  have qs3 := slot_val (t := 3) ha rfl
  simp only [List.getElem_toArray, List.getElem_cons_succ, List.getElem_cons_zero] at qs3
  have qs4 := slot_val (t := 4) ha rfl
  simp only [List.getElem_toArray, List.getElem_cons_succ, List.getElem_cons_zero] at qs4
  have HCS := Lib.hid hCS
  have HVS := Lib.hid hV
  clear ha hCS hV
  refine sure_det (js := []) (ts := [4]) (gd := none) (place_at HVS.out (k := 0) rfl) (by rw [HCS.out]; kernel_rfl) ?_ ?_
  ·intro wx hx ρ hρ hs hf; have hρc := hρ.const; have hρf := hρ.func
   obtain ⟨fx4, -⟩ := hf; rw [qs4] at fx4
   clear hs
   clear HCS HVS qs1 qs2 qs3 qs4
   refine run_plain ?_
   obtain ⟨p0, p1, p2, p3, p4, -⟩ := hX wx hx.drawn
   unfold runs
   go_simp
   exact detK.mk
  refine sure_det (js := []) (ts := [1]) (gd := none) (place_at HVS.out (k := 1) rfl) (by rw [HCS.out]; kernel_rfl) ?_ ?_
  ·intro wx hx ρ hρ hs hf; have hρc := hρ.const; have hρf := hρ.func
   obtain ⟨fx1, -⟩ := hf; rw [qs1] at fx1
   clear hs
   clear HCS HVS qs1 qs2 qs3 qs4
   refine run_plain ?_
   refine op_move rfl fx1 ?_
   exact detK.mk
  refine sure_det (js := []) (ts := [2]) (gd := none) (place_at HVS.out (k := 2) rfl) (by rw [HCS.out]; kernel_rfl) ?_ ?_
  ·intro wx hx ρ hρ hs hf; have hρc := hρ.const; have hρf := hρ.func
   obtain ⟨fx2, -⟩ := hf; rw [qs2] at fx2
   clear hs
   clear HCS HVS qs1 qs2 qs3 qs4
   refine run_plain ?_
   refine op_move rfl fx2 ?_
   exact detK.mk
  refine sure_det (js := []) (ts := [1]) (gd := none) (place_at HVS.out (k := 3) rfl) (by rw [HCS.out]; kernel_rfl) ?_ ?_
  ·intro wx hx ρ hρ hs hf; have hρc := hρ.const; have hρf := hρ.func
   obtain ⟨fx1, -⟩ := hf; rw [qs1] at fx1
   clear hs
   clear HCS HVS qs1 qs2 qs3 qs4
   refine run_plain ?_
   refine op_move rfl fx1 ?_
   exact detK.mk
  refine sure_det (js := []) (ts := [4]) (gd := none) (place_at HVS.out (k := 4) rfl) (by rw [HCS.out]; kernel_rfl) ?_ ?_
  ·intro wx hx ρ hρ hs hf; have hρc := hρ.const; have hρf := hρ.func
   obtain ⟨fx4, -⟩ := hf; rw [qs4] at fx4
   clear hs
   clear HCS HVS qs1 qs2 qs3 qs4
   refine run_plain ?_
   unfold runs
   go_simp
   exact detK.mk
  refine sure_det (js := [(4, 22), (3, 21)]) (ts := []) (gd := none) (place_at HVS.out (k := 5) rfl) (by rw [HCS.out]; kernel_rfl) ?_ ?_
  ·intro wx hx ρ hρ hs hf; have hρc := hρ.const; have hρf := hρ.func; obtain ⟨sn4, sn3, -⟩ := hs; rw [place_at HVS.out (k := 4) rfl] at sn4; replace sn4 : ρ (.tmp 22) = _ := sn4; rw [place_at HVS.out (k := 3) rfl] at sn3; replace sn3 : ρ (.tmp 21) = _ := sn3
   clear hf
   clear HCS HVS qs1 qs2 qs3 qs4
   refine run_plain ?_
   unfold runs
   go_simp
   exact detK.mk
  refine sure_det (js := [(5, 23)]) (ts := []) (gd := none) (place_at HVS.out (k := 6) rfl) (by rw [HCS.out]; kernel_rfl) ?_ ?_
  ·intro wx hx ρ hρ hs hf; have hρc := hρ.const; have hρf := hρ.func; obtain ⟨sn5, -⟩ := hs; rw [place_at HVS.out (k := 5) rfl] at sn5; replace sn5 : ρ (.tmp 23) = _ := sn5
   clear hf
   clear HCS HVS qs1 qs2 qs3 qs4
   refine run_plain ?_
   obtain ⟨p0, p1, p2, p3, p4, -⟩ := hX wx hx.drawn
   unfold runs
   go_simp
   exact detK.mk
  refine sure_det (js := []) (ts := [2]) (gd := none) (place_at HVS.out (k := 7) rfl) (by rw [HCS.out]; kernel_rfl) ?_ ?_
  ·intro wx hx ρ hρ hs hf; have hρc := hρ.const; have hρf := hρ.func
   obtain ⟨fx2, -⟩ := hf; rw [qs2] at fx2
   clear hs
   clear HCS HVS qs1 qs2 qs3 qs4
   refine run_plain ?_
   refine op_move rfl fx2 ?_
   exact detK.mk
  refine sure_det (js := [(6, 24), (7, 25)]) (ts := []) (gd := none) (place_at HVS.out (k := 8) rfl) (by rw [HCS.out]; kernel_rfl) ?_ ?_
  ·intro wx hx ρ hρ hs hf; have hρc := hρ.const; have hρf := hρ.func; obtain ⟨sn6, sn7, -⟩ := hs; rw [place_at HVS.out (k := 6) rfl] at sn6; replace sn6 : ρ (.tmp 24) = _ := sn6; rw [place_at HVS.out (k := 7) rfl] at sn7; replace sn7 : ρ (.tmp 25) = _ := sn7
   clear hf
   clear HCS HVS qs1 qs2 qs3 qs4
   refine run_plain ?_
   unfold runs
   go_simp
   exact detK.mk
  refine sure_det (js := [(8, 26)]) (ts := []) (gd := none) (place_at HVS.out (k := 9) rfl) (by rw [HCS.out]; kernel_rfl) ?_ ?_
  ·intro wx hx ρ hρ hs hf; have hρc := hρ.const; have hρf := hρ.func; obtain ⟨sn8, -⟩ := hs; rw [place_at HVS.out (k := 8) rfl] at sn8; replace sn8 : ρ (.tmp 26) = _ := sn8
   clear hf
   clear HCS HVS qs1 qs2 qs3 qs4
   refine run_plain ?_
   obtain ⟨p0, p1, p2, p3, p4, -⟩ := hX wx hx.drawn
   unfold runs
   go_simp
   exact detK.mk
  refine sure_det (js := []) (ts := [3]) (gd := none) (place_at HVS.out (k := 10) rfl) (by rw [HCS.out]; kernel_rfl) ?_ ?_
  ·intro wx hx ρ hρ hs hf; have hρc := hρ.const; have hρf := hρ.func
   obtain ⟨fx3, -⟩ := hf; rw [qs3] at fx3
   clear hs
   clear HCS HVS qs1 qs2 qs3 qs4
   refine run_plain ?_
   refine op_move rfl fx3 ?_
   exact detK.mk
  refine sure_op (js := [(9, 27), (10, 28)]) (ts := []) (gd := none) (place_at HVS.out (k := 11) rfl) (by rw [HCS.out]; kernel_rfl) ?_ ?_
  ·intro wx hx ρ hρ hs hf; have hρc := hρ.const; have hρf := hρ.func; obtain ⟨sn9, sn10, -⟩ := hs; rw [place_at HVS.out (k := 9) rfl] at sn9; replace sn9 : ρ (.tmp 27) = _ := sn9; rw [place_at HVS.out (k := 10) rfl] at sn10; replace sn10 : ρ (.tmp 28) = _ := sn10
   clear hf
   clear HCS HVS qs1 qs2 qs3 qs4
   refine run_plain ?_
   refine op_call rfl hρ Try.call45 (map_two sn9 sn10) ?_
   refine Calls.mono (rappend_any s.D B s.q s.cd m c2 s.k s.d b _ (StOK.ext aok (hX _ hx.drawn).2.2.2.2.2) (hB.ext (hX _ hx.drawn).2.2.2.2.2) hm) ?_
   rintro e w' ⟨X, cx, rfl, hV, hx5⟩
   exact ⟨_, rfl, hx5, ⟨X, s.q + m, cx, s.k, s.d ++ b⟩, rfl, ⟨rfl, rfl, rfl⟩, hV⟩
  refine sure_op (js := [(0, 18), (1, 19), (2, 20), (11, 29)]) (ts := []) (gd := none) (place_at HVS.out (k := 12) rfl) (by rw [HCS.out]; kernel_rfl) ?_ ?_
  ·intro wx hx ρ hρ hs hf; have hρc := hρ.const; have hρf := hρ.func; obtain ⟨sn0, sn1, sn2, sn11, -⟩ := hs; rw [place_at HVS.out (k := 0) rfl] at sn0; replace sn0 : ρ (.tmp 18) = _ := sn0; rw [place_at HVS.out (k := 1) rfl] at sn1; replace sn1 : ρ (.tmp 19) = _ := sn1; rw [place_at HVS.out (k := 2) rfl] at sn2; replace sn2 : ρ (.tmp 20) = _ := sn2; rw [place_at HVS.out (k := 11) rfl] at sn11; replace sn11 : ∃ s' : St, (ρ (.tmp 29)) = .agg #[.slice s'.D s'.q s'.cd, .int .i64 s'.k] ∧ (s'.q = s.q + m ∧ s'.k = s.k ∧ s'.d = s.d ++ b) ∧ StOK wx s' := sn11
   clear hf
   clear HCS HVS qs1 qs2 qs3 qs4
   refine run_plain ?_
   obtain ⟨s', e11, hg, ho⟩ := sn11
   refine op_call rfl hρ Try.call94 (map_four sn0 sn1 sn2 e11) ?_
   refine Calls.mono (rwith_row1 R _ _ n0 c0 n1 c1 i l s s' _ (hrow'.ext (hX _ hx.drawn).2.2.2.2.2) hs ho hn) ?_
   rintro e w' ⟨A', c', rfl, hr, hx5⟩
   exact ⟨_, rfl, hx5, A', c', s', rfl, hg, hr⟩
  exact trivial
 case hend =>
  intro xs wx hx hg
  have gk0 : xs 0 = _ := goods_get hg (i := 0) (j := 0) (d := 18) rfl
  have gk1 : xs 1 = _ := goods_get hg (i := 1) (j := 1) (d := 19) rfl
  have gk2 : xs 2 = _ := goods_get hg (i := 2) (j := 2) (d := 20) rfl
  have gk3 : xs 3 = _ := goods_get hg (i := 3) (j := 3) (d := 21) rfl
  have gk4 : xs 4 = _ := goods_get hg (i := 4) (j := 4) (d := 22) rfl
  have gk5 : xs 5 = _ := goods_get hg (i := 5) (j := 5) (d := 23) rfl
  have gk6 : xs 6 = _ := goods_get hg (i := 6) (j := 6) (d := 24) rfl
  have gk7 : xs 7 = _ := goods_get hg (i := 7) (j := 7) (d := 25) rfl
  have gk8 : xs 8 = _ := goods_get hg (i := 8) (j := 8) (d := 26) rfl
  have gk9 : xs 9 = _ := goods_get hg (i := 9) (j := 9) (d := 27) rfl
  have gk10 : xs 10 = _ := goods_get hg (i := 10) (j := 10) (d := 28) rfl
  have gk11 : ∃ s' : St, (xs 11) = .agg #[.slice s'.D s'.q s'.cd, .int .i64 s'.k] ∧ (s'.q = s.q + m ∧ s'.k = s.k ∧ s'.d = s.d ++ b) ∧ StOK wx s' := goods_get hg (i := 11) (j := 11) (d := 29) rfl
  have gk12 : ∃ (A' : Option Addr) (c' : Nat) (s' : St), (xs 12) = .agg #[.int .u64 R, .slice A0 n0 c0, .slice A' n1 c'] ∧ (s'.q = s.q + m ∧ s'.k = s.k ∧ s'.d = s.d ++ b) ∧ RowV wx A' n1 c' (l.set i s') := goods_get hg (i := 12) (j := 12) (d := 30) rfl
  clear hg
  simp only [putAll, gk0, gk1, gk2, gk3, gk4, gk5, gk6, gk7, gk8, gk9, gk10]
  clear gk0 gk1 gk2 gk3 gk4 gk5 gk6 gk7 gk8 gk9 gk10
  generalize xs 11 = vx11 at gk11 ⊢
  generalize xs 12 = vx12 at gk12 ⊢
  clear xs
  simp only [Act.put, List.setIfInBounds_toArray, List.set_cons_zero, List.set_cons_succ, List.drop_succ_cons, List.drop_zero]
  obtain ⟨A', c', s', e12, hg, hr⟩ := gk12
  have hxx : Ext w1 wx := hx.drawn
  replace hO := heap_ext hO hxx
  replace hW := hW.trans hxx
  clear hX hE hx hxx
  subst e12
  have d0 : wx.cell? ⟨w.heap.size + 1, 0, none⟩ = some (.int .u64 0) := by simp [World.cell?, hO]
  have df0 : wx.frozen? ⟨w.heap.size + 1, 0, none⟩ = false := by simp [World.frozen?, hO]
  have d1 : wx.cell? ⟨w.heap.size + 1, 1, none⟩ = some (.slice none 0 0) := by simp [World.cell?, hO]
  have df1 : wx.frozen? ⟨w.heap.size + 1, 1, none⟩ = false := by simp [World.frozen?, hO]
  have d2 : wx.cell? ⟨w.heap.size + 1, 2, none⟩ = some (.slice none 0 0) := by simp [World.cell?, hO]
  have df2 : wx.frozen? ⟨w.heap.size + 1, 2, none⟩ = false := by simp [World.frozen?, hO]
  have hr2 := fun vs => hr.box hO (fun v hv => diskish_three v hv rfl rfl rfl) 0 vs
  clear hO hr
  go_wp2
  refine bodyPost_ret (v := .tuple #[.agg #[.int .u64 R, .slice A0 n0 c0, .slice A' n1 c'], .int .i64 0]) (by simp [results, Try.results68, go_sem, d0, d1, d2]) rfl ⟨A', c', s', rfl, hr2 [.int .u64 R, .slice A0 n0 c0, .slice A' n1 c'], hg, ?_⟩
  exact setAll_ext (g := w.heap.size + 1) (vs := [.int .u64 R, .slice A0 n0 c0, .slice A' n1 c']) (i := 0) hW (by omega)
set_option maxRecDepth 100000 in
set_option maxHeartbeats 4000000 in
theorem rsync_row1 (R : Int) (A0 A1 : Option Addr) (n0 c0 n1 c1 : Nat) (i : Nat) (l : List St) (s : St) (w : World) (hrow : RowV w A1 n1 c1 l) (hs : l[i]? = some s) (hn : n1 ≤ 65536) (hnn : n0 = n1) (hq : s.q ≤ 9223372036854775807) :
  Calls Try.prog 70 #[.agg #[.int .u64 R, .slice A0 n0 c0, .slice A1 n1 c1], .int .i64 1, .int .i64 i] w fun e w' =>
   ∃ (A' : Option Addr) (c' : Nat) (s' : St), e = .returned (.tuple #[.agg #[.int .u64 R, .slice A0 n0 c0, .slice A' n1 c'], .int .i64 0]) ∧ RowV w' A' n1 c' (l.set i s') ∧ (s'.q = s.q ∧ s'.k = (s.q : Int) ∧ s'.d = s.d) ∧ Ext w w' := by
 have hil : i < l.length := (List.getElem?_eq_some_iff.1 hs).1
 have hlen := hrow.len
 have hin : i < n0 := by omega
 have hini : (i : Int) < (n1 : Int) := by omega
 clear hnn
 have hrow' := hrow
 obtain ⟨a, rfl, a0, a1, aok⟩ := hrow.at hs
 go_enter Try.func70, Try.ntmps70
 go_upto_region 1 with (fail)
 obtain ⟨hW, hE, hO⟩ := two_boxes7 w (.cells #[.int .u64 R, .slice A0 n0 c0, .slice (some a) n1 c1] 30) (.cells #[.int .u64 0, .slice none 0 0, .slice none 0 0] 30)
 generalize (w.alloc (.cells #[.int .u64 R, .slice A0 n0 c0, .slice (some a) n1 c1] 30)).alloc (.cells #[.int .u64 0, .slice none 0 0, .slice none 0 0] 30) = W at *
 have e0 : W.cell? ⟨w.heap.size, 0, none⟩ = some (.int .u64 R) := by simp [World.cell?, hE]
 have e1 : W.cell? ⟨w.heap.size, 1, none⟩ = some (.slice A0 n0 c0) := by simp [World.cell?, hE]
 have e2 : W.cell? ⟨w.heap.size, 2, none⟩ = some (.slice (some a) n1 c1) := by simp [World.cell?, hE]
 go_wp2_with fail
 refine (ris_any R _ _ n0 c0 n1 c1 1 i _).mono ?_
 rw [isB_row1 hin]
 rintro e w1 ⟨rfl, hx1⟩
 replace hE := heap_ext hE hx1
 replace hO := heap_ext hO hx1
 replace hW := hW.trans hx1
 clear e0 e1 e2 hx1
 go_upto_region 4 with (fail)
 have hX : ∀ wx, Ext w1 wx → wx.cell? ⟨w.heap.size, 0, none⟩ = some (.int .u64 R) ∧ wx.cell? ⟨w.heap.size, 1, none⟩ = some (.slice A0 n0 c0) ∧ wx.cell? ⟨w.heap.size, 2, none⟩ = some (.slice (some a) n1 c1) ∧ wx.cell? (a.add (i * 2)) = some (.slice s.D s.q s.cd) ∧ wx.cell? ⟨(a.add (i * 2)).block, (a.add (i * 2)).off + 1, none⟩ = some (.int .i64 s.k) ∧ Ext w wx := fun wx hx =>
  ⟨hx.cell (by simp [World.cell?, hE]), hx.cell (by simp [World.cell?, hE]), hx.cell (by simp [World.cell?, hE]), (hW.trans hx).cell a0, (hW.trans hx).cell a1, hW.trans hx⟩
 refine' wp_region_sure ⟨((some 16, [], none) :: (some 17, [], none) :: (some 18, [], none) :: (some 19, [], none) :: (some 20, [], none) :: (some 21, [4, 3], none) :: (some 22, [5], none) :: (some 23, [], none) :: (some 24, [6, 7], none) :: (some 25, [8], none) :: (some 26, [9], none) :: (some 27, [0, 1, 2, 10, 10], none) :: (none, [11, 11, 0, 1, 2, 3, 4, 5, 6, 7, 8, 9, 10, 11], none) :: (some 7, [12, 0, 1, 2, 3, 4, 5, 6, 7, 8, 9, 10, 11, 12], none) :: []), (0 :: 0 :: 0 :: 0 :: 0 :: 24 :: 56 :: 0 :: 248 :: 504 :: 1016 :: 2047 :: 4095 :: 8191 :: []), (true :: true :: true :: true :: true :: true :: true :: true :: true :: true :: false :: false :: []), [], 0⟩ 12 28 ((0, 16) :: (1, 17) :: (2, 18) :: (3, 19) :: (4, 20) :: (5, 21) :: (6, 22) :: (7, 23) :: (8, 24) :: (9, 25) :: (10, 26) :: (11, 27) :: []) ((0, 16) :: (1, 17) :: (2, 18) :: (3, 19) :: (4, 20) :: (5, 21) :: (6, 22) :: (7, 23) :: (8, 24) :: (9, 25) :: (10, 26) :: (11, 27) :: []) (.det _ :: .det _ :: .det _ :: .det _ :: .det _ :: .det _ :: .det _ :: .det _ :: .det _ :: .det _ :: Good.of (fun v w => ∃ s' : St, v = .agg #[.slice s'.D s'.q s'.cd, .int .i64 s'.k] ∧ (s'.q = s.q ∧ s'.k = (s.q : Int) ∧ s'.d = s.d) ∧ StOK w s') (fun v w w' h hx => let ⟨s', e, hg, ho⟩ := h; ⟨s', e, hg, ho.ext hx⟩) :: Good.of (fun v w => ∃ (A' : Option Addr) (c' : Nat) (s' : St), v = .agg #[.int .u64 R, .slice A0 n0 c0, .slice A' n1 c'] ∧ (s'.q = s.q ∧ s'.k = (s.q : Int) ∧ s'.d = s.d) ∧ RowV w A' n1 c' (l.set i s')) (fun v w w' h hx => let ⟨A', c', s', e, hg, ho⟩ := h; ⟨A', c', s', e, hg, ho.ext hx⟩) :: []) (by kernel_rfl) (by kernel_rfl) (by kernel_rfl) rfl (by kernel_rfl) (by kernel_rfl) rfl ?hone ?hend
 case hone =>
  intro CS frS VS hCS ha hV
  have qs1 := slot_val (t := 1) ha rfl
  simp only [List.getElem_toArray, List.getElem_cons_succ, List.getElem_cons_zero] at qs1
  have qs2 := slot_val (t := 2) ha rfl
  simp only [List.getElem_toArray, List.getElem_cons_succ, List.getElem_cons_zero] at qs2
  have qs3 := slot_val (t := 3) ha rfl
  simp only [List.getElem_toArray, List.getElem_cons_succ, List.getElem_cons_zero] at qs3
  have HCS := Lib.hid hCS
  have HVS := Lib.hid hV
  clear ha hCS hV
  refine sure_det (js := []) (ts := [3]) (gd := none) (place_at HVS.out (k := 0) rfl) (by rw [HCS.out]; kernel_rfl) ?_ ?_
  ·intro wx hx ρ hρ hs hf; have hρc := hρ.const; have hρf := hρ.func
   obtain ⟨fx3, -⟩ := hf; rw [qs3] at fx3
   clear hs
   clear HCS HVS qs1 qs2 qs3
   refine run_plain ?_
   obtain ⟨p0, p1, p2, p3, p4, -⟩ := hX wx hx.drawn
   unfold runs
   go_simp
   exact detK.mk
  refine sure_det (js := []) (ts := [1]) (gd := none) (place_at HVS.out (k := 1) rfl) (by rw [HCS.out]; kernel_rfl) ?_ ?_
  ·intro wx hx ρ hρ hs hf; have hρc := hρ.const; have hρf := hρ.func
   obtain ⟨fx1, -⟩ := hf; rw [qs1] at fx1
   clear hs
   clear HCS HVS qs1 qs2 qs3
   refine run_plain ?_
   refine op_move rfl fx1 ?_
   exact detK.mk
  refine sure_det (js := []) (ts := [2]) (gd := none) (place_at HVS.out (k := 2) rfl) (by rw [HCS.out]; kernel_rfl) ?_ ?_
  ·intro wx hx ρ hρ hs hf; have hρc := hρ.const; have hρf := hρ.func
   obtain ⟨fx2, -⟩ := hf; rw [qs2] at fx2
   clear hs
   clear HCS HVS qs1 qs2 qs3
   refine run_plain ?_
   refine op_move rfl fx2 ?_
   exact detK.mk
  refine sure_det (js := []) (ts := [1]) (gd := none) (place_at HVS.out (k := 3) rfl) (by rw [HCS.out]; kernel_rfl) ?_ ?_
  ·intro wx hx ρ hρ hs hf; have hρc := hρ.const; have hρf := hρ.func
   obtain ⟨fx1, -⟩ := hf; rw [qs1] at fx1
   clear hs
   clear HCS HVS qs1 qs2 qs3
   refine run_plain ?_
   refine op_move rfl fx1 ?_
   exact detK.mk
  refine sure_det (js := []) (ts := [3]) (gd := none) (place_at HVS.out (k := 4) rfl) (by rw [HCS.out]; kernel_rfl) ?_ ?_
  ·intro wx hx ρ hρ hs hf; have hρc := hρ.const; have hρf := hρ.func
   obtain ⟨fx3, -⟩ := hf; rw [qs3] at fx3
   clear hs
   clear HCS HVS qs1 qs2 qs3
   refine run_plain ?_
   unfold runs
   go_simp
   exact detK.mk
  refine sure_det (js := [(4, 20), (3, 19)]) (ts := []) (gd := none) (place_at HVS.out (k := 5) rfl) (by rw [HCS.out]; kernel_rfl) ?_ ?_
  ·intro wx hx ρ hρ hs hf; have hρc := hρ.const; have hρf := hρ.func; obtain ⟨sn4, sn3, -⟩ := hs; rw [place_at HVS.out (k := 4) rfl] at sn4; replace sn4 : ρ (.tmp 20) = _ := sn4; rw [place_at HVS.out (k := 3) rfl] at sn3; replace sn3 : ρ (.tmp 19) = _ := sn3
   clear hf
   clear HCS HVS qs1 qs2 qs3
   refine run_plain ?_
   unfold runs
   go_simp
   exact detK.mk
  refine sure_det (js := [(5, 21)]) (ts := []) (gd := none) (place_at HVS.out (k := 6) rfl) (by rw [HCS.out]; kernel_rfl) ?_ ?_
  ·intro wx hx ρ hρ hs hf; have hρc := hρ.const; have hρf := hρ.func; obtain ⟨sn5, -⟩ := hs; rw [place_at HVS.out (k := 5) rfl] at sn5; replace sn5 : ρ (.tmp 21) = _ := sn5
   clear hf
   clear HCS HVS qs1 qs2 qs3
   refine run_plain ?_
   obtain ⟨p0, p1, p2, p3, p4, -⟩ := hX wx hx.drawn
   unfold runs
   go_simp
   exact detK.mk
  refine sure_det (js := []) (ts := [2]) (gd := none) (place_at HVS.out (k := 7) rfl) (by rw [HCS.out]; kernel_rfl) ?_ ?_
  ·intro wx hx ρ hρ hs hf; have hρc := hρ.const; have hρf := hρ.func
   obtain ⟨fx2, -⟩ := hf; rw [qs2] at fx2
   clear hs
   clear HCS HVS qs1 qs2 qs3
   refine run_plain ?_
   refine op_move rfl fx2 ?_
   exact detK.mk
  refine sure_det (js := [(6, 22), (7, 23)]) (ts := []) (gd := none) (place_at HVS.out (k := 8) rfl) (by rw [HCS.out]; kernel_rfl) ?_ ?_
  ·intro wx hx ρ hρ hs hf; have hρc := hρ.const; have hρf := hρ.func; obtain ⟨sn6, sn7, -⟩ := hs; rw [place_at HVS.out (k := 6) rfl] at sn6; replace sn6 : ρ (.tmp 22) = _ := sn6; rw [place_at HVS.out (k := 7) rfl] at sn7; replace sn7 : ρ (.tmp 23) = _ := sn7
   clear hf
   clear HCS HVS qs1 qs2 qs3
   refine run_plain ?_
   unfold runs
   go_simp
   exact detK.mk
  refine sure_det (js := [(8, 24)]) (ts := []) (gd := none) (place_at HVS.out (k := 9) rfl) (by rw [HCS.out]; kernel_rfl) ?_ ?_
  ·intro wx hx ρ hρ hs hf; have hρc := hρ.const; have hρf := hρ.func; obtain ⟨sn8, -⟩ := hs; rw [place_at HVS.out (k := 8) rfl] at sn8; replace sn8 : ρ (.tmp 24) = _ := sn8
   clear hf
   clear HCS HVS qs1 qs2 qs3
   refine run_plain ?_
   obtain ⟨p0, p1, p2, p3, p4, -⟩ := hX wx hx.drawn
   unfold runs
   go_simp
   exact detK.mk
  refine sure_op (js := [(9, 25)]) (ts := []) (gd := none) (place_at HVS.out (k := 10) rfl) (by rw [HCS.out]; kernel_rfl) ?_ ?_
  ·intro wx hx ρ hρ hs hf; have hρc := hρ.const; have hρf := hρ.func; obtain ⟨sn9, -⟩ := hs; rw [place_at HVS.out (k := 9) rfl] at sn9; replace sn9 : ρ (.tmp 25) = _ := sn9
   clear hf
   clear HCS HVS qs1 qs2 qs3
   refine run_plain ?_
   refine op_call rfl hρ Try.call47 (map_one sn9) ?_
   refine Calls.mono (rsync_any s.D s.q s.cd s.k hq _) ?_
   rintro e w' ⟨rfl, hx5⟩
   exact ⟨_, rfl, hx5, ⟨s.D, s.q, s.cd, (s.q : Int), s.d⟩, rfl, ⟨rfl, rfl, rfl⟩, (StOK.ext aok (hX _ hx.drawn).2.2.2.2.2).ext hx5⟩
  refine sure_op (js := [(0, 16), (1, 17), (2, 18), (10, 26)]) (ts := []) (gd := none) (place_at HVS.out (k := 11) rfl) (by rw [HCS.out]; kernel_rfl) ?_ ?_
  ·intro wx hx ρ hρ hs hf; have hρc := hρ.const; have hρf := hρ.func; obtain ⟨sn0, sn1, sn2, sn10, -⟩ := hs; rw [place_at HVS.out (k := 0) rfl] at sn0; replace sn0 : ρ (.tmp 16) = _ := sn0; rw [place_at HVS.out (k := 1) rfl] at sn1; replace sn1 : ρ (.tmp 17) = _ := sn1; rw [place_at HVS.out (k := 2) rfl] at sn2; replace sn2 : ρ (.tmp 18) = _ := sn2; rw [place_at HVS.out (k := 10) rfl] at sn10; replace sn10 : ∃ s' : St, (ρ (.tmp 26)) = .agg #[.slice s'.D s'.q s'.cd, .int .i64 s'.k] ∧ (s'.q = s.q ∧ s'.k = (s.q : Int) ∧ s'.d = s.d) ∧ StOK wx s' := sn10
   clear hf
   clear HCS HVS qs1 qs2 qs3
   refine run_plain ?_
   obtain ⟨s', e11, hg, ho⟩ := sn10
   refine op_call rfl hρ Try.call94 (map_four sn0 sn1 sn2 e11) ?_
   refine Calls.mono (rwith_row1 R _ _ n0 c0 n1 c1 i l s s' _ (hrow'.ext (hX _ hx.drawn).2.2.2.2.2) hs ho hn) ?_
   rintro e w' ⟨A', c', rfl, hr, hx5⟩
   exact ⟨_, rfl, hx5, A', c', s', rfl, hg, hr⟩
  exact trivial
 case hend =>
  intro xs wx hx hg
  have gk0 : xs 0 = _ := goods_get hg (i := 0) (j := 0) (d := 16) rfl
  have gk1 : xs 1 = _ := goods_get hg (i := 1) (j := 1) (d := 17) rfl
  have gk2 : xs 2 = _ := goods_get hg (i := 2) (j := 2) (d := 18) rfl
  have gk3 : xs 3 = _ := goods_get hg (i := 3) (j := 3) (d := 19) rfl
  have gk4 : xs 4 = _ := goods_get hg (i := 4) (j := 4) (d := 20) rfl
  have gk5 : xs 5 = _ := goods_get hg (i := 5) (j := 5) (d := 21) rfl
  have gk6 : xs 6 = _ := goods_get hg (i := 6) (j := 6) (d := 22) rfl
  have gk7 : xs 7 = _ := goods_get hg (i := 7) (j := 7) (d := 23) rfl
  have gk8 : xs 8 = _ := goods_get hg (i := 8) (j := 8) (d := 24) rfl
  have gk9 : xs 9 = _ := goods_get hg (i := 9) (j := 9) (d := 25) rfl
  have gk10 : ∃ s' : St, (xs 10) = .agg #[.slice s'.D s'.q s'.cd, .int .i64 s'.k] ∧ (s'.q = s.q ∧ s'.k = (s.q : Int) ∧ s'.d = s.d) ∧ StOK wx s' := goods_get hg (i := 10) (j := 10) (d := 26) rfl
  have gk11 : ∃ (A' : Option Addr) (c' : Nat) (s' : St), (xs 11) = .agg #[.int .u64 R, .slice A0 n0 c0, .slice A' n1 c'] ∧ (s'.q = s.q ∧ s'.k = (s.q : Int) ∧ s'.d = s.d) ∧ RowV wx A' n1 c' (l.set i s') := goods_get hg (i := 11) (j := 11) (d := 27) rfl
  clear hg
  simp only [putAll, gk0, gk1, gk2, gk3, gk4, gk5, gk6, gk7, gk8, gk9]
  clear gk0 gk1 gk2 gk3 gk4 gk5 gk6 gk7 gk8 gk9
  generalize xs 10 = vx10 at gk10 ⊢
  generalize xs 11 = vx11 at gk11 ⊢
  clear xs
  simp only [Act.put, List.setIfInBounds_toArray, List.set_cons_zero, List.set_cons_succ, List.drop_succ_cons, List.drop_zero]
  obtain ⟨A', c', s', e12, hg, hr⟩ := gk11
  have hxx : Ext w1 wx := hx.drawn
  replace hO := heap_ext hO hxx
  replace hW := hW.trans hxx
  clear hX hE hx hxx
  subst e12
  have d0 : wx.cell? ⟨w.heap.size + 1, 0, none⟩ = some (.int .u64 0) := by simp [World.cell?, hO]
  have df0 : wx.frozen? ⟨w.heap.size + 1, 0, none⟩ = false := by simp [World.frozen?, hO]
  have d1 : wx.cell? ⟨w.heap.size + 1, 1, none⟩ = some (.slice none 0 0) := by simp [World.cell?, hO]
  have df1 : wx.frozen? ⟨w.heap.size + 1, 1, none⟩ = false := by simp [World.frozen?, hO]
  have d2 : wx.cell? ⟨w.heap.size + 1, 2, none⟩ = some (.slice none 0 0) := by simp [World.cell?, hO]
  have df2 : wx.frozen? ⟨w.heap.size + 1, 2, none⟩ = false := by simp [World.frozen?, hO]
  have hr2 := fun vs => hr.box hO (fun v hv => diskish_three v hv rfl rfl rfl) 0 vs
  clear hO hr
  go_wp2
  refine bodyPost_ret (v := .tuple #[.agg #[.int .u64 R, .slice A0 n0 c0, .slice A' n1 c'], .int .i64 0]) (by simp [results, Try.results70, go_sem, d0, d1, d2]) rfl ⟨A', c', s', rfl, hr2 [.int .u64 R, .slice A0 n0 c0, .slice A' n1 c'], hg, ?_⟩
  exact setAll_ext (g := w.heap.size + 1) (vs := [.int .u64 R, .slice A0 n0 c0, .slice A' n1 c']) (i := 0) hW (by omega)
set_option maxRecDepth 100000 in
set_option maxHeartbeats 1000000 in
theorem rread_row1 (R : Int) (A0 A1 : Option Addr) (n0 c0 n1 c1 : Nat) (i : Nat) (l : List St) (s : St) (w : World) (hrow : RowV w A1 n1 c1 l) (hs : l[i]? = some s) (hnn : n0 = n1) :
  Calls Try.prog 72 #[.agg #[.int .u64 R, .slice A0 n0 c0, .slice A1 n1 c1], .int .i64 1, .int .i64 i] w fun e w' =>
   ∃ (A' : Option Addr) (c' : Nat), e = .returned (.tuple #[.slice A' s.q c', .int .i64 0]) ∧ BytesV w' A' s.q c' s.d ∧ Ext w w' := by
 have hil : i < l.length := (List.getElem?_eq_some_iff.1 hs).1
 have hlen := hrow.len
 have hin : i < n0 := by omega
 have hini : (i : Int) < (n1 : Int) := by omega
 clear hnn
 obtain ⟨a, rfl, a0, a1, aok⟩ := hrow.at hs
 have hW : Ext w (w.alloc (.cells #[.int .u64 R, .slice A0 n0 c0, .slice (some a) n1 c1] 30)) := (Below.refl _ w).alloc (Nat.le_refl _) _
 have hE : (w.alloc (.cells #[.int .u64 R, .slice A0 n0 c0, .slice (some a) n1 c1] 30)).heap[w.heap.size]? = some (.cells #[.int .u64 R, .slice A0 n0 c0, .slice (some a) n1 c1] 30 (0, 0)) := heap_alloc_new w _
 go_enter Try.func72, Try.ntmps72
 go_upto_region 1 with (fail)
 generalize w.alloc (.cells #[.int .u64 R, .slice A0 n0 c0, .slice (some a) n1 c1] 30) = W at *
 have e0 : W.cell? ⟨w.heap.size, 0, none⟩ = some (.int .u64 R) := by simp [World.cell?, hE]
 have e1 : W.cell? ⟨w.heap.size, 1, none⟩ = some (.slice A0 n0 c0) := by simp [World.cell?, hE]
 have e2 : W.cell? ⟨w.heap.size, 2, none⟩ = some (.slice (some a) n1 c1) := by simp [World.cell?, hE]
 go_wp2_with fail
 refine (ris_any R _ _ n0 c0 n1 c1 1 i _).mono ?_
 rw [isB_row1 hin]
 rintro e w1 ⟨rfl, hx1⟩
 replace hE := heap_ext hE hx1
 replace hW := hW.trans hx1
 replace a0 := hW.cell a0
 clear e0 e1 e2 hx1
 have e0 : w1.cell? ⟨w.heap.size, 0, none⟩ = some (.int .u64 R) := by simp [World.cell?, hE]
 have e1 : w1.cell? ⟨w.heap.size, 1, none⟩ = some (.slice A0 n0 c0) := by simp [World.cell?, hE]
 have e2 : w1.cell? ⟨w.heap.size, 2, none⟩ = some (.slice (some a) n1 c1) := by simp [World.cell?, hE]
 clear hE
 go_wp2
 refine bodyPost_ret (v := .tuple #[.slice s.D s.q s.cd, .int .i64 0]) (by simp [results, Try.results72, go_sem]) rfl ⟨s.D, s.cd, rfl, StOK.ext aok hW, hW⟩
set_option maxRecDepth 100000 in
set_option maxHeartbeats 1000000 in
theorem rclear_row1 (R : Int) (A0 A1 : Option Addr) (n0 c0 n1 c1 : Nat) (w : World) (hn : n1 ≤ 65536) :
  Calls Try.prog 74 #[.agg #[.int .u64 R, .slice A0 n0 c0, .slice A1 n1 c1], .int .i64 1] w fun e w' =>
   ∃ (A' : Option Addr) (c' : Nat), e = .returned (.tuple #[.agg #[.int .u64 R, .slice A0 n0 c0, .slice A' n1 c'], .int .i64 0]) ∧ RowV w' A' n1 c' (List.replicate n1 St.zero) ∧ Ext w w' := by
 have hmk := run_mkrow n1 (by omega)
 go_enter Try.func74, Try.ntmps74
 go_upto_region 1 with (fail)
 obtain ⟨hW, hE, hO⟩ := two_boxes7 w (.cells #[.int .u64 R, .slice A0 n0 c0, .slice A1 n1 c1] 30) (.cells #[.int .u64 0, .slice none 0 0, .slice none 0 0] 30)
 generalize (w.alloc (.cells #[.int .u64 R, .slice A0 n0 c0, .slice A1 n1 c1] 30)).alloc (.cells #[.int .u64 0, .slice none 0 0, .slice none 0 0] 30) = w1 at *
 have hlt : w.heap.size + 1 < w1.heap.size := (Array.getElem?_eq_some_iff.1 hO).1
 have e0 : w1.cell? ⟨w.heap.size, 0, none⟩ = some (.int .u64 R) := by simp [World.cell?, hE]
 have ef0 : w1.frozen? ⟨w.heap.size, 0, none⟩ = false := by simp [World.frozen?, hE]
 have e1 : w1.cell? ⟨w.heap.size, 1, none⟩ = some (.slice A0 n0 c0) := by simp [World.cell?, hE]
 have ef1 : w1.frozen? ⟨w.heap.size, 1, none⟩ = false := by simp [World.frozen?, hE]
 have e2 : w1.cell? ⟨w.heap.size, 2, none⟩ = some (.slice A1 n1 c1) := by simp [World.cell?, hE]
 have ef2 : w1.frozen? ⟨w.heap.size, 2, none⟩ = false := by simp [World.frozen?, hE]
 have hne1 : ¬ w.heap.size = w1.heap.size := by omega
 have hlt1 : w.heap.size < w1.heap.size := by omega
 go_upto_region 4 with (fail)
 clear hne1 hlt1
 generalize hC : (rowCells (List.replicate n1 St.zero)).toArray = C at *
 clear e0 e1 e2 ef0 ef1 ef2 hmk
 have hsU' : ∀ p u, (w1.setCell p u).heap.size = w1.heap.size := fun p u => by simp [World.setCell]
 generalize w1.heap.size = gz at *
 have hE2 : (w1.setCell ⟨w.heap.size, 2, none⟩ (.slice (some ⟨gz, 0, none⟩) n1 n1)).heap[w.heap.size]? = some (.cells #[.int .u64 R, .slice A0 n0 c0, .slice (some ⟨gz, 0, none⟩) n1 n1] 30 (0, 0)) := heap_setCell_at hE
 have hO2 : (w1.setCell ⟨w.heap.size, 2, none⟩ (.slice (some ⟨gz, 0, none⟩) n1 n1)).heap[w.heap.size + 1]? = some (.cells #[.int .u64 0, .slice none 0 0, .slice none 0 0] 30 (0, 0)) := (Below.heap_setCell _ _ _ _ (by simp <;> omega)).trans hO
 have hsU : (w1.setCell ⟨w.heap.size, 2, none⟩ (.slice (some ⟨gz, 0, none⟩) n1 n1)).heap.size = gz := hsU' _ _
 have hW2 : Ext w (w1.setCell ⟨w.heap.size, 2, none⟩ (.slice (some ⟨gz, 0, none⟩) n1 n1)) := hW.setCell (Nat.le_refl _) _
 generalize w1.setCell ⟨w.heap.size, 2, none⟩ (.slice (some ⟨gz, 0, none⟩) n1 n1) = U at *
 have hx3 : Ext U (U.alloc (.cells C 90)) := (Below.refl _ U).alloc (Nat.le_refl _) _
 have hZ3 : (U.alloc (.cells C 90)).heap[gz]? = some (.cells C 90 (0, 0)) := by rw [← hsU]; exact heap_alloc_new U _
 have hE3 := heap_ext hE2 hx3
 have hO3 := heap_ext hO2 hx3
 have hW3 := hW2.trans hx3
 clear hx3
 generalize U.alloc (.cells C 90) = W3 at *
 have e0 : W3.cell? ⟨w.heap.size, 0, none⟩ = some (.int .u64 R) := by simp [World.cell?, hE3]
 have e1 : W3.cell? ⟨w.heap.size, 1, none⟩ = some (.slice A0 n0 c0) := by simp [World.cell?, hE3]
 have e2 : W3.cell? ⟨w.heap.size, 2, none⟩ = some (.slice (some ⟨gz, 0, none⟩) n1 n1) := by simp [World.cell?, hE3]
 have d0 : W3.cell? ⟨w.heap.size + 1, 0, none⟩ = some (.int .u64 0) := by simp [World.cell?, hO3]
 have df0 : W3.frozen? ⟨w.heap.size + 1, 0, none⟩ = false := by simp [World.frozen?, hO3]
 have d1 : W3.cell? ⟨w.heap.size + 1, 1, none⟩ = some (.slice none 0 0) := by simp [World.cell?, hO3]
 have df1 : W3.frozen? ⟨w.heap.size + 1, 1, none⟩ = false := by simp [World.frozen?, hO3]
 have d2 : W3.cell? ⟨w.heap.size + 1, 2, none⟩ = some (.slice none 0 0) := by simp [World.cell?, hO3]
 have df2 : W3.frozen? ⟨w.heap.size + 1, 2, none⟩ = false := by simp [World.frozen?, hO3]
 clear hE3 hO3 hE hO hE2 hO2
 go_wp2
 refine bodyPost_ret (v := .tuple #[.agg #[.int .u64 R, .slice A0 n0 c0, .slice (some ⟨gz, 0, none⟩) n1 n1], .int .i64 0]) (by simp [results, Try.results74, go_sem, d0, d1, d2]) rfl ⟨_, _, rfl, RowV.made (fr := (0, 0)) (T := 90) ?_ (by simp) (by omega) zero_ok, ?_⟩
 ·rw [hC]
  exact (setAll_other (g := w.heap.size + 1) (k := gz) (by omega) [.int .u64 R, .slice A0 n0 c0, .slice (some ⟨gz, 0, none⟩) n1 n1] 0 W3).trans hZ3
 ·exact setAll_ext (g := w.heap.size + 1) (vs := [.int .u64 R, .slice A0 n0 c0, .slice (some ⟨gz, 0, none⟩) n1 n1]) (i := 0) hW3 (by omega)
set_option maxRecDepth 100000 in
set_option maxHeartbeats 1000000 in
theorem rappend_no (R : Int) (A0 A1 : Option Addr) (n0 c0 n1 c1 : Nat) (row i : Int) (B : Option Addr) (m c2 : Nat) (w : World) (hno : isB row i n0 n0 = false) :
  Calls Try.prog 68 #[.agg #[.int .u64 R, .slice A0 n0 c0, .slice A1 n1 c1], .int .i64 row, .int .i64 i, .slice B m c2] w fun e w' => e = .returned (.tuple #[.agg #[.int .u64 R, .slice A0 n0 c0, .slice A1 n1 c1], .int .i64 1]) ∧ Ext w w' := by
 go_enter Try.func68, Try.ntmps68
 go_upto_region 1 with (fail)
 obtain ⟨hW, hE, hO⟩ := two_boxes7 w (.cells #[.int .u64 R, .slice A0 n0 c0, .slice A1 n1 c1] 30) (.cells #[.int .u64 0, .slice none 0 0, .slice none 0 0] 30)
 generalize (w.alloc (.cells #[.int .u64 R, .slice A0 n0 c0, .slice A1 n1 c1] 30)).alloc (.cells #[.int .u64 0, .slice none 0 0, .slice none 0 0] 30) = W at *
 have e0 : W.cell? ⟨w.heap.size, 0, none⟩ = some (.int .u64 R) := by simp [World.cell?, hE]
 have e1 : W.cell? ⟨w.heap.size, 1, none⟩ = some (.slice A0 n0 c0) := by simp [World.cell?, hE]
 have e2 : W.cell? ⟨w.heap.size, 2, none⟩ = some (.slice A1 n1 c1) := by simp [World.cell?, hE]
 go_wp2_with fail
 refine (ris_any R A0 A1 n0 c0 n1 c1 row i W).mono ?_
 rw [hno]
 rintro e w1 ⟨rfl, hx1⟩
 replace hE := heap_ext hE hx1
 replace hO := heap_ext hO hx1
 replace hW := hW.trans hx1
 clear e0 e1 e2
 have e0 : w1.cell? ⟨w.heap.size, 0, none⟩ = some (.int .u64 R) := by simp [World.cell?, hE]
 have e1 : w1.cell? ⟨w.heap.size, 1, none⟩ = some (.slice A0 n0 c0) := by simp [World.cell?, hE]
 have e2 : w1.cell? ⟨w.heap.size, 2, none⟩ = some (.slice A1 n1 c1) := by simp [World.cell?, hE]
 have d0 : w1.cell? ⟨w.heap.size + 1, 0, none⟩ = some (.int .u64 0) := by simp [World.cell?, hO]
 have df0 : w1.frozen? ⟨w.heap.size + 1, 0, none⟩ = false := by simp [World.frozen?, hO]
 have d1 : w1.cell? ⟨w.heap.size + 1, 1, none⟩ = some (.slice none 0 0) := by simp [World.cell?, hO]
 have df1 : w1.frozen? ⟨w.heap.size + 1, 1, none⟩ = false := by simp [World.frozen?, hO]
 have d2 : w1.cell? ⟨w.heap.size + 1, 2, none⟩ = some (.slice none 0 0) := by simp [World.cell?, hO]
 have df2 : w1.frozen? ⟨w.heap.size + 1, 2, none⟩ = false := by simp [World.frozen?, hO]
 clear hE hO
 go_wp2
 refine bodyPost_ret (v := .tuple #[.agg #[.int .u64 R, .slice A0 n0 c0, .slice A1 n1 c1], .int .i64 1]) (by simp [results, Try.results68, go_sem, d0, d1, d2]) rfl ⟨rfl, ?_⟩
 exact setAll_ext (g := w.heap.size + 1) (vs := [.int .u64 R, .slice A0 n0 c0, .slice A1 n1 c1]) (i := 0) hW (by omega)
set_option maxRecDepth 100000 in
set_option maxHeartbeats 1000000 in
theorem rsync_no (R : Int) (A0 A1 : Option Addr) (n0 c0 n1 c1 : Nat) (row i : Int) (w : World) (hno : isB row i n0 n0 = false) :
  Calls Try.prog 70 #[.agg #[.int .u64 R, .slice A0 n0 c0, .slice A1 n1 c1], .int .i64 row, .int .i64 i] w fun e w' => e = .returned (.tuple #[.agg #[.int .u64 R, .slice A0 n0 c0, .slice A1 n1 c1], .int .i64 1]) ∧ Ext w w' := by
 go_enter Try.func70, Try.ntmps70
 go_upto_region 1 with (fail)
 obtain ⟨hW, hE, hO⟩ := two_boxes7 w (.cells #[.int .u64 R, .slice A0 n0 c0, .slice A1 n1 c1] 30) (.cells #[.int .u64 0, .slice none 0 0, .slice none 0 0] 30)
 generalize (w.alloc (.cells #[.int .u64 R, .slice A0 n0 c0, .slice A1 n1 c1] 30)).alloc (.cells #[.int .u64 0, .slice none 0 0, .slice none 0 0] 30) = W at *
 have e0 : W.cell? ⟨w.heap.size, 0, none⟩ = some (.int .u64 R) := by simp [World.cell?, hE]
 have e1 : W.cell? ⟨w.heap.size, 1, none⟩ = some (.slice A0 n0 c0) := by simp [World.cell?, hE]
 have e2 : W.cell? ⟨w.heap.size, 2, none⟩ = some (.slice A1 n1 c1) := by simp [World.cell?, hE]
 go_wp2_with fail
 refine (ris_any R A0 A1 n0 c0 n1 c1 row i W).mono ?_
 rw [hno]
 rintro e w1 ⟨rfl, hx1⟩
 replace hE := heap_ext hE hx1
 replace hO := heap_ext hO hx1
 replace hW := hW.trans hx1
 clear e0 e1 e2
 have e0 : w1.cell? ⟨w.heap.size, 0, none⟩ = some (.int .u64 R) := by simp [World.cell?, hE]
 have e1 : w1.cell? ⟨w.heap.size, 1, none⟩ = some (.slice A0 n0 c0) := by simp [World.cell?, hE]
 have e2 : w1.cell? ⟨w.heap.size, 2, none⟩ = some (.slice A1 n1 c1) := by simp [World.cell?, hE]
 have d0 : w1.cell? ⟨w.heap.size + 1, 0, none⟩ = some (.int .u64 0) := by simp [World.cell?, hO]
 have df0 : w1.frozen? ⟨w.heap.size + 1, 0, none⟩ = false := by simp [World.frozen?, hO]
 have d1 : w1.cell? ⟨w.heap.size + 1, 1, none⟩ = some (.slice none 0 0) := by simp [World.cell?, hO]
 have df1 : w1.frozen? ⟨w.heap.size + 1, 1, none⟩ = false := by simp [World.frozen?, hO]
 have d2 : w1.cell? ⟨w.heap.size + 1, 2, none⟩ = some (.slice none 0 0) := by simp [World.cell?, hO]
 have df2 : w1.frozen? ⟨w.heap.size + 1, 2, none⟩ = false := by simp [World.frozen?, hO]
 clear hE hO
 go_wp2
 refine bodyPost_ret (v := .tuple #[.agg #[.int .u64 R, .slice A0 n0 c0, .slice A1 n1 c1], .int .i64 1]) (by simp [results, Try.results70, go_sem, d0, d1, d2]) rfl ⟨rfl, ?_⟩
 exact setAll_ext (g := w.heap.size + 1) (vs := [.int .u64 R, .slice A0 n0 c0, .slice A1 n1 c1]) (i := 0) hW (by omega)
set_option maxRecDepth 100000 in
set_option maxHeartbeats 1000000 in
theorem rread_no (R : Int) (A0 A1 : Option Addr) (n0 c0 n1 c1 : Nat) (row i : Int) (w : World) (hno : isB row i n0 n0 = false) :
  Calls Try.prog 72 #[.agg #[.int .u64 R, .slice A0 n0 c0, .slice A1 n1 c1], .int .i64 row, .int .i64 i] w fun e w' => e = .returned (.tuple #[.slice none 0 0, .int .i64 1]) ∧ Ext w w' := by
 have hW : Ext w (w.alloc (.cells #[.int .u64 R, .slice A0 n0 c0, .slice A1 n1 c1] 30)) := (Below.refl _ w).alloc (Nat.le_refl _) _
 go_enter Try.func72, Try.ntmps72
 go_wp2_with fail
 refine (ris_any R A0 A1 n0 c0 n1 c1 row i _).mono ?_
 rw [hno]
 rintro e w1 ⟨rfl, hx1⟩
 go_wp2
 refine bodyPost_ret (v := .tuple #[.slice none 0 0, .int .i64 1]) (by simp [results, Try.results72, go_sem]) rfl ⟨rfl, hW.trans hx1⟩
set_option maxRecDepth 100000 in
set_option maxHeartbeats 1000000 in
theorem rclear_no (R : Int) (A0 A1 : Option Addr) (n0 c0 n1 c1 : Nat) (row : Int) (w : World) (h0 : ¬ row = 0) (h1 : ¬ row = 1) :
  Calls Try.prog 74 #[.agg #[.int .u64 R, .slice A0 n0 c0, .slice A1 n1 c1], .int .i64 row] w fun e w' => e = .returned (.tuple #[.agg #[.int .u64 R, .slice A0 n0 c0, .slice A1 n1 c1], .int .i64 1]) ∧ Ext w w' := by
 have hb0 : (row != 0) = true := by simp only [bne_iff_ne, ne_eq]; exact h0
 have hb1 : (row != 1) = true := by simp only [bne_iff_ne, ne_eq]; exact h1
 go_enter Try.func74, Try.ntmps74
 go_upto_region 1 with (fail)
 obtain ⟨hW, hE, hO⟩ := two_boxes7 w (.cells #[.int .u64 R, .slice A0 n0 c0, .slice A1 n1 c1] 30) (.cells #[.int .u64 0, .slice none 0 0, .slice none 0 0] 30)
 generalize (w.alloc (.cells #[.int .u64 R, .slice A0 n0 c0, .slice A1 n1 c1] 30)).alloc (.cells #[.int .u64 0, .slice none 0 0, .slice none 0 0] 30) = W at *
 have e0 : W.cell? ⟨w.heap.size, 0, none⟩ = some (.int .u64 R) := by simp [World.cell?, hE]
 have e1 : W.cell? ⟨w.heap.size, 1, none⟩ = some (.slice A0 n0 c0) := by simp [World.cell?, hE]
 have e2 : W.cell? ⟨w.heap.size, 2, none⟩ = some (.slice A1 n1 c1) := by simp [World.cell?, hE]
 have d0 : W.cell? ⟨w.heap.size + 1, 0, none⟩ = some (.int .u64 0) := by simp [World.cell?, hO]
 have df0 : W.frozen? ⟨w.heap.size + 1, 0, none⟩ = false := by simp [World.frozen?, hO]
 have d1 : W.cell? ⟨w.heap.size + 1, 1, none⟩ = some (.slice none 0 0) := by simp [World.cell?, hO]
 have df1 : W.frozen? ⟨w.heap.size + 1, 1, none⟩ = false := by simp [World.frozen?, hO]
 have d2 : W.cell? ⟨w.heap.size + 1, 2, none⟩ = some (.slice none 0 0) := by simp [World.cell?, hO]
 have df2 : W.frozen? ⟨w.heap.size + 1, 2, none⟩ = false := by simp [World.frozen?, hO]
 clear hE hO
 go_wp2
 refine bodyPost_ret (v := .tuple #[.agg #[.int .u64 R, .slice A0 n0 c0, .slice A1 n1 c1], .int .i64 1]) (by simp [results, Try.results74, go_sem, d0, d1, d2]) rfl ⟨rfl, ?_⟩
 exact setAll_ext (g := w.heap.size + 1) (vs := [.int .u64 R, .slice A0 n0 c0, .slice A1 n1 c1]) (i := 0) hW (by omega)
set_option maxRecDepth 100000 in
set_option maxHeartbeats 1000000 in
theorem rnew7_no (t : Int) (w : World) (ht : t < 1 ∨ 64 < t) :
  Calls Try.prog 64 #[.int .i64 t] w fun e w' => e = .returned (.tuple #[.agg #[.int .u64 0, .slice none 0 0, .slice none 0 0], .int .i64 1]) ∧ Ext w w' := by
 have hb : ∀ W : World, (Instr.build 30 #[]).run Try.prog W = .ok (.agg #[.int .u64 0, .slice none 0 0, .slice none 0 0]) W := fun _ => by kernel_rfl
 have hE : Ext w (w.alloc (.cells #[.int .u64 0, .slice none 0 0, .slice none 0 0] 30)) := (Below.refl _ w).alloc (Nat.le_refl _) _
 rcases ht with h | h
 ·go_enter Try.func64, Try.ntmps64
  go_wp2
  refine bodyPost_ret (v := .tuple #[.agg #[.int .u64 0, .slice none 0 0, .slice none 0 0], .int .i64 1]) (by simp [results, Try.results64, go_sem]) rfl ⟨rfl, ?_⟩
  exact hE
 ·have h2 : ¬ t < 1 := by omega
  go_enter Try.func64, Try.ntmps64
  go_wp2
  refine bodyPost_ret (v := .tuple #[.agg #[.int .u64 0, .slice none 0 0, .slice none 0 0], .int .i64 1]) (by simp [results, Try.results64, go_sem]) rfl ⟨rfl, ?_⟩
  exact hE
set_option maxRecDepth 100000 in
set_option maxHeartbeats 4000000 in
theorem rnew7_yes (t : Nat) (w : World) (h1 : 1 ≤ t) (h2 : t ≤ 64) :
  Calls Try.prog 64 #[.int .i64 t] w fun e w' => ∃ (A0 A1 : Option Addr) (c0 c1 : Nat), e = .returned (.tuple #[.agg #[.int .u64 0, .slice A0 t c0, .slice A1 t c1], .int .i64 0]) ∧ RowV w' A0 t c0 (List.replicate t St.zero) ∧ RowV w' A1 t c1 (List.replicate t St.zero) ∧ Ext w w' := by
 have hmk := run_mkrow t (by omega)
 have h1' : ¬ (t : Int) < 1 := by omega
 have h2' : ¬ (64 : Int) < (t : Int) := by omega
 generalize hC : (rowCells (List.replicate t St.zero)).toArray = C at *
 go_enter Try.func64, Try.ntmps64
 go_upto_region 4 with (fail)
 obtain ⟨hW, hE, hO⟩ := two_boxes7 w (.cells #[.int .u64 0, .slice none 0 0, .slice none 0 0] 30) (.cells #[.int .u64 0, .slice none 0 0, .slice none 0 0] 30)
 generalize (w.alloc (.cells #[.int .u64 0, .slice none 0 0, .slice none 0 0] 30)).alloc (.cells #[.int .u64 0, .slice none 0 0, .slice none 0 0] 30) = wr at *
 have hlt : w.heap.size + 1 < wr.heap.size := (Array.getElem?_eq_some_iff.1 hO).1
 have d0 : wr.cell? ⟨w.heap.size + 1, 0, none⟩ = some (.int .u64 0) := by simp [World.cell?, hO]
 have df0 : wr.frozen? ⟨w.heap.size + 1, 0, none⟩ = false := by simp [World.frozen?, hO]
 have d1 : wr.cell? ⟨w.heap.size + 1, 1, none⟩ = some (.slice none 0 0) := by simp [World.cell?, hO]
 have df1 : wr.frozen? ⟨w.heap.size + 1, 1, none⟩ = false := by simp [World.frozen?, hO]
 have d2 : wr.cell? ⟨w.heap.size + 1, 2, none⟩ = some (.slice none 0 0) := by simp [World.cell?, hO]
 have df2 : wr.frozen? ⟨w.heap.size + 1, 2, none⟩ = false := by simp [World.frozen?, hO]
 have HE := Lib.hid hE
 have HO := Lib.hid hO
 clear hE hO
 have hne1 : ¬ w.heap.size + 1 = wr.heap.size := by omega
 go_upto_region 5 with (fail)
 obtain ⟨b1, b2, b3, b4⟩ := box_made (i := 1) (u := .slice (some ⟨wr.heap.size, 0, none⟩) t t) (C := C) HO.out hW (by omega)
 have hE5 := b4 _ _ (by omega) HE.out
 have hgl : w.heap.size + 1 < wr.heap.size := hlt
 clear b4 HE HO d0 d1 d2 df0 df1 df2 hne1 hlt hW
 generalize (wr.setCell ⟨w.heap.size + 1, 1, none⟩ (.slice (some ⟨wr.heap.size, 0, none⟩) t t)).alloc (.cells C 90) = W5 at *
 generalize wr.heap.size = g0 at *
 clear wr
 have hlt : w.heap.size + 1 < W5.heap.size := (Array.getElem?_eq_some_iff.1 b1).1
 have d0 : W5.cell? ⟨w.heap.size + 1, 0, none⟩ = some (.int .u64 0) := by simp [World.cell?, b1]
 have df0 : W5.frozen? ⟨w.heap.size + 1, 0, none⟩ = false := by simp [World.frozen?, b1]
 have d1 : W5.cell? ⟨w.heap.size + 1, 1, none⟩ = some (.slice (some ⟨g0, 0, none⟩) t t) := by simp [World.cell?, b1]
 have df1 : W5.frozen? ⟨w.heap.size + 1, 1, none⟩ = false := by simp [World.frozen?, b1]
 have d2 : W5.cell? ⟨w.heap.size + 1, 2, none⟩ = some (.slice none 0 0) := by simp [World.cell?, b1]
 have df2 : W5.frozen? ⟨w.heap.size + 1, 2, none⟩ = false := by simp [World.frozen?, b1]
 have HE := Lib.hid hE5
 have HO := Lib.hid b1
 have HG := Lib.hid b2
 clear hE5 b1 b2
 have hne1 : ¬ w.heap.size + 1 = W5.heap.size := by omega
 go_upto_region 6 with (fail)
 obtain ⟨b1, b2, b5, b4⟩ := box_made (i := 2) (u := .slice (some ⟨W5.heap.size, 0, none⟩) t t) (C := C) HO.out b3 (by omega)
 have hE6 := b4 _ _ (by omega) HE.out
 have hg0 := b4 _ _ (by omega) HG.out
 have hgl1 : w.heap.size + 1 < W5.heap.size := hlt
 clear b4 HE HO HG d0 d1 d2 df0 df1 df2 hne1 hlt b3
 generalize (W5.setCell ⟨w.heap.size + 1, 2, none⟩ (.slice (some ⟨W5.heap.size, 0, none⟩) t t)).alloc (.cells C 90) = W6 at *
 generalize W5.heap.size = g1 at *
 clear W5
 have d0 : W6.cell? ⟨w.heap.size + 1, 0, none⟩ = some (.int .u64 0) := by simp [World.cell?, b1]
 have d1 : W6.cell? ⟨w.heap.size + 1, 1, none⟩ = some (.slice (some ⟨g0, 0, none⟩) t t) := by simp [World.cell?, b1]
 have d2 : W6.cell? ⟨w.heap.size + 1, 2, none⟩ = some (.slice (some ⟨g1, 0, none⟩) t t) := by simp [World.cell?, b1]
 have e0 : W6.cell? ⟨w.heap.size, 0, none⟩ = some (.int .u64 0) := by simp [World.cell?, hE6]
 have ef0 : W6.frozen? ⟨w.heap.size, 0, none⟩ = false := by simp [World.frozen?, hE6]
 have e1 : W6.cell? ⟨w.heap.size, 1, none⟩ = some (.slice none 0 0) := by simp [World.cell?, hE6]
 have ef1 : W6.frozen? ⟨w.heap.size, 1, none⟩ = false := by simp [World.frozen?, hE6]
 have e2 : W6.cell? ⟨w.heap.size, 2, none⟩ = some (.slice none 0 0) := by simp [World.cell?, hE6]
 have ef2 : W6.frozen? ⟨w.heap.size, 2, none⟩ = false := by simp [World.frozen?, hE6]
 clear b1 hE6
 go_wp2
 refine bodyPost_ret (v := .tuple #[.agg #[.int .u64 0, .slice (some ⟨g0, 0, none⟩) t t, .slice (some ⟨g1, 0, none⟩) t t], .int .i64 0]) (by simp [results, Try.results64, go_sem, e0, e1, e2]) rfl ⟨_, _, _, _, rfl, RowV.made (fr := (0, 0)) (T := 90) ?_ (by simp) (by omega) zero_ok, RowV.made (fr := (0, 0)) (T := 90) ?_ (by simp) (by omega) zero_ok, ?_⟩
 ·rw [hC]
  exact (setAll_other (g := w.heap.size) (k := g0) (by omega) [.int .u64 0, .slice (some ⟨g0, 0, none⟩) t t, .slice (some ⟨g1, 0, none⟩) t t] 0 W6).trans hg0
 ·rw [hC]
  exact (setAll_other (g := w.heap.size) (k := g1) (by omega) [.int .u64 0, .slice (some ⟨g0, 0, none⟩) t t, .slice (some ⟨g1, 0, none⟩) t t] 0 W6).trans b2
 ·exact setAll_ext (g := w.heap.size) (vs := [.int .u64 0, .slice (some ⟨g0, 0, none⟩) t t, .slice (some ⟨g1, 0, none⟩) t t]) (i := 0) b5 (Nat.le_refl _)
end Go.Proofs.Ytennnhfaghdeoaa
