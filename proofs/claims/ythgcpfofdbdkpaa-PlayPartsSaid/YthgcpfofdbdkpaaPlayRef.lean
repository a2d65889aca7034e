import Derived.Test.YthgcpfofdbdkpaaPlayLn
import Derived.Test.YthgcpfofdbdkpaaStream
import Derived.Test.YthgcpfofdbdkpaaWords
namespace Go.Proofs.Ythgcpfofdbdkpaa
open Go.RowKit

/-! wealdref11: a log that is gone through. -/
def Acc.zero : Acc := ⟨0, 0, 0, 0, none, 0, 0, none, 0, 0⟩
def Res.zero : Res := ⟨0, none, 0, 0, false⟩
/-- how far a log is gone through, whether it stopped, and what is asked -/
structure Cu where
  i : Nat
  stop : Bool
  x : Acc
def Cu.told (rs : List Res) (s : Cu) : Res := if s.stop then Res.zero else (rs[s.i]?).getD Res.zero
def Cu.next (rs : List Res) (y : Acc) (s : Cu) : Cu := if s.stop then s else if s.i < rs.length then ⟨s.i + 1, false, s.x⟩ else ⟨s.i, true, y⟩
def curCells (A : Option Addr) (n c : Nat) (s : Cu) : List Value := [.slice A n c, .int .i64 s.i, .bool s.stop, .int .i64 s.x.kind, .int .i64 s.x.cell, .int .u64 s.x.a, .int .u64 s.x.b, .slice s.x.D s.x.dk s.x.dc, .slice s.x.W s.x.wk s.x.wc]
def CurAt (w : World) (g : Nat) (A : Option Addr) (n c : Nat) (s : Cu) : Prop := w.heap[g]? = some (.cells (curCells A n c s).toArray 113 (0, 0))
theorem list_toArray (l : List Value) : l.toArray = l.toArray := rfl
set_option maxRecDepth 100000 in
set_option maxHeartbeats 4000000 in
theorem rdo_any (y : Acc) (g : Nat) (A : Option Addr) (n c : Nat) (s : Cu) (rs : List Res) (w : World) (hlog : LogV w A n c rs) (hsep : ∀ a, A = some a → 0 < n → a.block ≠ g) (hcur : CurAt w g A n c s) :
    Calls Try.prog 56 #[.pointer (some ⟨g, 0, none⟩), .agg y.cells] w fun e w' => e = .returned (.agg #[.int .u64 (s.told rs).n, .slice (s.told rs).A (s.told rs).k (s.told rs).c, .bool (s.told rs).fail]) ∧ CurAt w' g A n c (s.next rs y) ∧ ExtB g w w' := by
  obtain ⟨y0, y1, y2, y3, y4, y5, y6, y7, y8, y9⟩ := y
  obtain ⟨i, stop, ⟨x0, x1, x2, x3, x4, x5, x6, x7, x8, x9⟩⟩ := s
  have hb0 : ∀ W : World, (Instr.build 107 #[]).run Try.prog W = .ok (.agg #[.int .u64 0, .slice none 0 0, .bool false]) W := fun _ => by kernel_rfl
  have hlen := hlog.len
  have hn := hlog.small
  have hcg : g < w.heap.size := (Array.getElem?_eq_some_iff.1 hcur).1
  simp only [Acc.cells]
  have hW : Ext w ((w.alloc (.cells #[.int .i64 y0, .int .i64 y1, .int .u64 y2, .int .u64 y3, .slice y4 y5 y6, .slice y7 y8 y9] 30)).alloc (.cells #[.int .u64 0, .slice none 0 0, .bool false] 107)) := ((Below.refl _ w).alloc (Nat.le_refl _) _).alloc (by simp) _
  have hy : ((w.alloc (.cells #[.int .i64 y0, .int .i64 y1, .int .u64 y2, .int .u64 y3, .slice y4 y5 y6, .slice y7 y8 y9] 30)).alloc (.cells #[.int .u64 0, .slice none 0 0, .bool false] 107)).heap[w.heap.size]? = some (.cells #[.int .i64 y0, .int .i64 y1, .int .u64 y2, .int .u64 y3, .slice y4 y5 y6, .slice y7 y8 y9] 30 (0, 0)) := by
    rw [Below.heap_alloc _ _ _ (by simp)]; exact heap_alloc_new w _
  have hr : ((w.alloc (.cells #[.int .i64 y0, .int .i64 y1, .int .u64 y2, .int .u64 y3, .slice y4 y5 y6, .slice y7 y8 y9] 30)).alloc (.cells #[.int .u64 0, .slice none 0 0, .bool false] 107)).heap[w.heap.size + 1]? = some (.cells #[.int .u64 0, .slice none 0 0, .bool false] 107 (0, 0)) := by
    simpa using heap_alloc_new (w.alloc (.cells #[.int .i64 y0, .int .i64 y1, .int .u64 y2, .int .u64 y3, .slice y4 y5 y6, .slice y7 y8 y9] 30)) (.cells #[.int .u64 0, .slice none 0 0, .bool false] 107)
  go_enter Try.func56, Try.ntmps56
  go_upto_region 1 with (fail)
  generalize (w.alloc (.cells #[.int .i64 y0, .int .i64 y1, .int .u64 y2, .int .u64 y3, .slice y4 y5 y6, .slice y7 y8 y9] 30)).alloc (.cells #[.int .u64 0, .slice none 0 0, .bool false] 107) = W at *
  have hcw : W.heap[g]? = some (.cells #[.slice A n c, .int .i64 i, .bool stop, .int .i64 x0, .int .i64 x1, .int .u64 x2, .int .u64 x3, .slice x4 x5 x6, .slice x7 x8 x9] 113 (0, 0)) := heap_ext hcur hW
  have c0 : W.cell? ⟨g, 0, none⟩ = some (.slice A n c) := by simp [World.cell?, hcw]
  have cf0 : W.frozen? ⟨g, 0, none⟩ = false := by simp [World.frozen?, hcw]
  have c1 : W.cell? ⟨g, 1, none⟩ = some (.int .i64 i) := by simp [World.cell?, hcw]
  have cf1 : W.frozen? ⟨g, 1, none⟩ = false := by simp [World.frozen?, hcw]
  have c2 : W.cell? ⟨g, 2, none⟩ = some (.bool stop) := by simp [World.cell?, hcw]
  have cf2 : W.frozen? ⟨g, 2, none⟩ = false := by simp [World.frozen?, hcw]
  have c3 : W.cell? ⟨g, 3, none⟩ = some (.int .i64 x0) := by simp [World.cell?, hcw]
  have cf3 : W.frozen? ⟨g, 3, none⟩ = false := by simp [World.frozen?, hcw]
  have c4 : W.cell? ⟨g, 4, none⟩ = some (.int .i64 x1) := by simp [World.cell?, hcw]
  have cf4 : W.frozen? ⟨g, 4, none⟩ = false := by simp [World.frozen?, hcw]
  have c5 : W.cell? ⟨g, 5, none⟩ = some (.int .u64 x2) := by simp [World.cell?, hcw]
  have cf5 : W.frozen? ⟨g, 5, none⟩ = false := by simp [World.frozen?, hcw]
  have c6 : W.cell? ⟨g, 6, none⟩ = some (.int .u64 x3) := by simp [World.cell?, hcw]
  have cf6 : W.frozen? ⟨g, 6, none⟩ = false := by simp [World.frozen?, hcw]
  have c7 : W.cell? ⟨g, 7, none⟩ = some (.slice x4 x5 x6) := by simp [World.cell?, hcw]
  have cf7 : W.frozen? ⟨g, 7, none⟩ = false := by simp [World.frozen?, hcw]
  have c8 : W.cell? ⟨g, 8, none⟩ = some (.slice x7 x8 x9) := by simp [World.cell?, hcw]
  have cf8 : W.frozen? ⟨g, 8, none⟩ = false := by simp [World.frozen?, hcw]
  have r0 : W.cell? ⟨w.heap.size + 1, 0, none⟩ = some (.int .u64 0) := by simp [World.cell?, hr]
  have rf0 : W.frozen? ⟨w.heap.size + 1, 0, none⟩ = false := by simp [World.frozen?, hr]
  have r1 : W.cell? ⟨w.heap.size + 1, 1, none⟩ = some (.slice none 0 0) := by simp [World.cell?, hr]
  have rf1 : W.frozen? ⟨w.heap.size + 1, 1, none⟩ = false := by simp [World.frozen?, hr]
  have r2 : W.cell? ⟨w.heap.size + 1, 2, none⟩ = some (.bool false) := by simp [World.cell?, hr]
  have rf2 : W.frozen? ⟨w.heap.size + 1, 2, none⟩ = false := by simp [World.frozen?, hr]
  have z0 : W.cell? ⟨w.heap.size, 0, none⟩ = some (.int .i64 y0) := by simp [World.cell?, hy]
  have z1 : W.cell? ⟨w.heap.size, 1, none⟩ = some (.int .i64 y1) := by simp [World.cell?, hy]
  have z2 : W.cell? ⟨w.heap.size, 2, none⟩ = some (.int .u64 y2) := by simp [World.cell?, hy]
  have z3 : W.cell? ⟨w.heap.size, 3, none⟩ = some (.int .u64 y3) := by simp [World.cell?, hy]
  have z4 : W.cell? ⟨w.heap.size, 4, none⟩ = some (.slice y4 y5 y6) := by simp [World.cell?, hy]
  have z5 : W.cell? ⟨w.heap.size, 5, none⟩ = some (.slice y7 y8 y9) := by simp [World.cell?, hy]
  have HC := Lib.hid hcw
  have HR := Lib.hid hr
  have HY := Lib.hid hy
  clear hcw hr hy hcur
  have hX : ∀ wx, Ext W wx → wx.cell? ⟨g, 0, none⟩ = some (.slice A n c) ∧ wx.cell? ⟨g, 1, none⟩ = some (.int .i64 i) ∧ wx.frozen? ⟨g, 1, none⟩ = false ∧ wx.heap[g]? = some (.cells #[.slice A n c, .int .i64 i, .bool stop, .int .i64 x0, .int .i64 x1, .int .u64 x2, .int .u64 x3, .slice x4 x5 x6, .slice x7 x8 x9] 113 (0, 0)) ∧ wx.heap[w.heap.size + 1]? = some (.cells #[.int .u64 0, .slice none 0 0, .bool false] 107 (0, 0)) ∧ wx.heap[w.heap.size]? = some (.cells #[.int .i64 y0, .int .i64 y1, .int .u64 y2, .int .u64 y3, .slice y4 y5 y6, .slice y7 y8 y9] 30 (0, 0)) := fun wx hx =>
    ⟨hx.cell c0, hx.cell c1, by have := heap_ext HC.out hx; simp [World.frozen?, this], heap_ext HC.out hx, heap_ext HR.out hx, heap_ext HY.out hx⟩
  cases stop with
  | true =>
    go_wp2
    refine bodyPost_ret (v := .agg #[.int .u64 0, .slice none 0 0, .bool false]) (by simp [results, Try.results56, go_sem, r0, r1, r2]) rfl ⟨rfl, ?_, ?_⟩
    · have h1 := (setAll_other (g := w.heap.size + 1) (k := g) (by omega) [.int .u64 0, .slice none 0 0, .bool false] 0 W).trans HC.out
      exact h1
    · exact ExtB.of (setAll_ext (g := w.heap.size + 1) (vs := [.int .u64 0, .slice none 0 0, .bool false]) (i := 0) hW (by omega))
  | false =>
    rcases Nat.lt_or_ge i rs.length with hi | hi
    · have hlt : (i : Int) < (n : Int) := by omega
      obtain ⟨a, rfl, hra⟩ := hlog.at_ i (rs[i]'hi) (List.getElem?_eq_getElem _)
      have hrs : rs[i]? = some (rs[i]'hi) := List.getElem?_eq_getElem _
      generalize rs[i]'hi = r at *
      obtain ⟨rn, rA, rk, rc, rf⟩ := r
      obtain ⟨q0, q1, q2⟩ := hra
      have hag := hsep a rfl (by omega)
      go_upto_region 3 with (fail)
      clear c0 c1 c2 c3 c4 c5 c6 c7 c8 cf0 cf1 cf2 cf3 cf4 cf5 cf6 cf7 cf8 r0 r1 r2 rf0 rf1 rf2 z0 z1 z2 z3 z4 z5
      refine' wp_region_sure_all ⟨((some 10, [], none) :: (some 11, [0], none) :: (some 12, [1], none) :: (some 13, [2], none) :: (some 14, [], none) :: (some 15, [4], none) :: (some 16, [5], none) :: (some 17, [6], none) :: (some 18, [7], none) :: (some 19, [3, 8], none) :: []), (0 :: 1 :: 3 :: 7 :: 0 :: 16 :: 48 :: 112 :: 240 :: 511 :: []), (true :: true :: true :: true :: true :: true :: true :: true :: true :: true :: []), [], 0⟩ 10 47 ((0, 10) :: (1, 11) :: (2, 12) :: (3, 13) :: (4, 14) :: (5, 15) :: (6, 16) :: (7, 17) :: (8, 18) :: (9, 19) :: []) ((0, 10) :: (1, 11) :: (2, 12) :: (3, 13) :: (4, 14) :: (5, 15) :: (6, 16) :: (7, 17) :: (8, 18) :: (9, 19) :: []) (.det _ :: .det _ :: .det _ :: .det _ :: .det _ :: .det _ :: .det _ :: .det _ :: .det _ :: .det _ :: []) (by kernel_rfl) (by kernel_rfl) (by kernel_rfl) rfl (by kernel_rfl) (by kernel_rfl) rfl (by kernel_rfl) ?hone ?hend
      case hone =>
        intro CS frS VS hCS ha hV
        have qs0 := slot_val (t := 0) ha rfl
        simp only [List.getElem_toArray, List.getElem_cons_succ, List.getElem_cons_zero] at qs0
        have HCS := Lib.hid hCS
        have HVS := Lib.hid hV
        clear ha hCS hV
        -- 0: slot 10 := Op.move t0
        refine sure_det (js := []) (ts := [0]) (gd := none) (place_at HVS.out (k := 0) rfl) (by rw [HCS.out]; kernel_rfl) ?_ ?_
        · intro wx hx ρ hρ hs hf
          have hρc := hρ.const
          have hρf := hρ.func
          obtain ⟨fx0, -⟩ := hf
          rw [qs0] at fx0
          clear hs
          clear HCS HVS qs0
          refine run_plain ?_
          refine op_move rfl fx0 ?_
          exact detK.mk
        -- 1: slot 11 := Op.nilCheck t10
        refine sure_det (js := [(0, 10)]) (ts := []) (gd := none) (place_at HVS.out (k := 1) rfl) (by rw [HCS.out]; kernel_rfl) ?_ ?_
        · intro wx hx ρ hρ hs hf
          have hρc := hρ.const
          have hρf := hρ.func
          obtain ⟨sn0, -⟩ := hs
          rw [place_at HVS.out (k := 0) rfl] at sn0
          replace sn0 : ρ (.tmp 10) = _ := sn0
          clear hf
          clear HCS HVS qs0
          refine run_plain ?_
          unfold runs
          go_simp
          exact detK.mk
        -- 2: slot 12 := Op.fieldAddr 113 t11 1
        refine sure_det (js := [(1, 11)]) (ts := []) (gd := none) (place_at HVS.out (k := 2) rfl) (by rw [HCS.out]; kernel_rfl) ?_ ?_
        · intro wx hx ρ hρ hs hf
          have hρc := hρ.const
          have hρf := hρ.func
          obtain ⟨sn1, -⟩ := hs
          rw [place_at HVS.out (k := 1) rfl] at sn1
          replace sn1 : ρ (.tmp 11) = _ := sn1
          clear hf
          clear HCS HVS qs0
          refine run_plain ?_
          unfold runs
          go_simp
          exact detK.mk
        -- 3: slot 13 := Op.load 3 t12
        refine sure_det (js := [(2, 12)]) (ts := []) (gd := none) (place_at HVS.out (k := 3) rfl) (by rw [HCS.out]; kernel_rfl) ?_ ?_
        · intro wx hx ρ hρ hs hf
          have hρc := hρ.const
          have hρf := hρ.func
          obtain ⟨sn2, -⟩ := hs
          rw [place_at HVS.out (k := 2) rfl] at sn2
          replace sn2 : ρ (.tmp 12) = _ := sn2
          clear hf
          clear HCS HVS qs0
          refine run_plain ?_
          obtain ⟨c0, c1, -⟩ := hX wx hx.drawn
          unfold runs
          go_simp
          exact detK.mk
        -- 4: slot 14 := Op.move t0
        refine sure_det (js := []) (ts := [0]) (gd := none) (place_at HVS.out (k := 4) rfl) (by rw [HCS.out]; kernel_rfl) ?_ ?_
        · intro wx hx ρ hρ hs hf
          have hρc := hρ.const
          have hρf := hρ.func
          obtain ⟨fx0, -⟩ := hf
          rw [qs0] at fx0
          clear hs
          clear HCS HVS qs0
          refine run_plain ?_
          refine op_move rfl fx0 ?_
          exact detK.mk
        -- 5: slot 15 := Op.nilCheck t14
        refine sure_det (js := [(4, 14)]) (ts := []) (gd := none) (place_at HVS.out (k := 5) rfl) (by rw [HCS.out]; kernel_rfl) ?_ ?_
        · intro wx hx ρ hρ hs hf
          have hρc := hρ.const
          have hρf := hρ.func
          obtain ⟨sn4, -⟩ := hs
          rw [place_at HVS.out (k := 4) rfl] at sn4
          replace sn4 : ρ (.tmp 14) = _ := sn4
          clear hf
          clear HCS HVS qs0
          refine run_plain ?_
          unfold runs
          go_simp
          exact detK.mk
        -- 6: slot 16 := Op.fieldAddr 113 t15 0
        refine sure_det (js := [(5, 15)]) (ts := []) (gd := none) (place_at HVS.out (k := 6) rfl) (by rw [HCS.out]; kernel_rfl) ?_ ?_
        · intro wx hx ρ hρ hs hf
          have hρc := hρ.const
          have hρf := hρ.func
          obtain ⟨sn5, -⟩ := hs
          rw [place_at HVS.out (k := 5) rfl] at sn5
          replace sn5 : ρ (.tmp 15) = _ := sn5
          clear hf
          clear HCS HVS qs0
          refine run_plain ?_
          unfold runs
          go_simp
          exact detK.mk
        -- 7: slot 17 := Op.load 23 t16
        refine sure_det (js := [(6, 16)]) (ts := []) (gd := none) (place_at HVS.out (k := 7) rfl) (by rw [HCS.out]; kernel_rfl) ?_ ?_
        · intro wx hx ρ hρ hs hf
          have hρc := hρ.const
          have hρf := hρ.func
          obtain ⟨sn6, -⟩ := hs
          rw [place_at HVS.out (k := 6) rfl] at sn6
          replace sn6 : ρ (.tmp 16) = _ := sn6
          clear hf
          clear HCS HVS qs0
          refine run_plain ?_
          obtain ⟨c0, c1, -⟩ := hX wx hx.drawn
          unfold runs
          go_simp
          exact detK.mk
        -- 8: slot 18 := Op.call { len, args := #[t17], argTypes := #[23] }
        refine sure_det (js := [(7, 17)]) (ts := []) (gd := none) (place_at HVS.out (k := 8) rfl) (by rw [HCS.out]; kernel_rfl) ?_ ?_
        · intro wx hx ρ hρ hs hf
          have hρc := hρ.const
          have hρf := hρ.func
          obtain ⟨sn7, -⟩ := hs
          rw [place_at HVS.out (k := 7) rfl] at sn7
          replace sn7 : ρ (.tmp 17) = _ := sn7
          clear hf
          clear HCS HVS qs0
          refine run_plain ?_
          unfold runs
          go_simp
          exact detK.mk
        -- 9: slot 19 := Op.binOp BinOp.lss 3 t13 t18 3
        refine sure_det (js := [(3, 13), (8, 18)]) (ts := []) (gd := none) (place_at HVS.out (k := 9) rfl) (by rw [HCS.out]; kernel_rfl) ?_ ?_
        · intro wx hx ρ hρ hs hf
          have hρc := hρ.const
          have hρf := hρ.func
          obtain ⟨sn3, sn8, -⟩ := hs
          rw [place_at HVS.out (k := 3) rfl] at sn3
          replace sn3 : ρ (.tmp 13) = _ := sn3
          rw [place_at HVS.out (k := 8) rfl] at sn8
          replace sn8 : ρ (.tmp 18) = _ := sn8
          clear hf
          clear HCS HVS qs0
          refine run_plain ?_
          unfold runs
          go_simp
          exact detK.mk
        exact trivial
      case hend =>
        intro xs wx hx hg
        have gk0 : xs 0 = _ := goods_get hg (i := 0) (j := 0) (d := 10) rfl
        have gk1 : xs 1 = _ := goods_get hg (i := 1) (j := 1) (d := 11) rfl
        have gk2 : xs 2 = _ := goods_get hg (i := 2) (j := 2) (d := 12) rfl
        have gk3 : xs 3 = _ := goods_get hg (i := 3) (j := 3) (d := 13) rfl
        have gk4 : xs 4 = _ := goods_get hg (i := 4) (j := 4) (d := 14) rfl
        have gk5 : xs 5 = _ := goods_get hg (i := 5) (j := 5) (d := 15) rfl
        have gk6 : xs 6 = _ := goods_get hg (i := 6) (j := 6) (d := 16) rfl
        have gk7 : xs 7 = _ := goods_get hg (i := 7) (j := 7) (d := 17) rfl
        have gk8 : xs 8 = _ := goods_get hg (i := 8) (j := 8) (d := 18) rfl
        have gk9 : xs 9 = _ := goods_get hg (i := 9) (j := 9) (d := 19) rfl
        clear hg
        simp only [putAll, gk0, gk1, gk2, gk3, gk4, gk5, gk6, gk7, gk8, gk9]
        clear gk0 gk1 gk2 gk3 gk4 gk5 gk6 gk7 gk8 gk9
        clear xs
        simp only [Act.put, List.setIfInBounds_toArray, List.set_cons_zero, List.set_cons_succ]
        obtain ⟨c0, c1, cf1, hg1, hr1, hy1⟩ := hX wx hx.drawn
        go_upto_region 5 with (fail)
        have hB : ExtB g w (wx.setCell ⟨g, 1, none⟩ (.int .i64 ((i : Int) + 1))) := (ExtB.of (hW.trans hx.drawn)).set _ _
        have hg2 : (wx.setCell ⟨g, 1, none⟩ (.int .i64 ((i : Int) + 1))).heap[g]? = some (.cells #[.slice (some a) n c, .int .i64 ((i : Int) + 1), .bool false, .int .i64 x0, .int .i64 x1, .int .u64 x2, .int .u64 x3, .slice x4 x5 x6, .slice x7 x8 x9] 113 (0, 0)) := by
          simp [World.setCell, Array.getElem?_modify, hg1]
        have hr2 : (wx.setCell ⟨g, 1, none⟩ (.int .i64 ((i : Int) + 1))).heap[w.heap.size + 1]? = _ := (Below.heap_setCell _ _ _ _ (by simp; omega)).trans hr1
        have p0 := hB.cell q0 (by rw [add_block]; exact hag)
        have p1 := hB.cell q1 (by rw [add_block, add_block]; exact hag)
        have p2 := hB.cell q2 (by rw [add_block, add_block]; exact hag)
        rw [show (a.add (i * 3)).add 1 = ⟨(a.add (i * 3)).block, (a.add (i * 3)).off + 1, none⟩ from rfl] at p1
        rw [show (a.add (i * 3)).add 2 = ⟨(a.add (i * 3)).block, (a.add (i * 3)).off + 2, none⟩ from rfl] at p2
        clear c0 c1 cf1 hg1 hr1 hy1 hX hx q0 q1 q2 hW
        generalize wx.setCell ⟨g, 1, none⟩ (.int .i64 ((i : Int) + 1)) = W2 at *
        have hw1 : IntKind.i64.wrap (i : Int) = (i : Int) := by rw [IntKind.wrap_i64]; omega
        have hX2 : ∀ wy, Ext W2.drew wy → wy.cell? ⟨g, 0, none⟩ = some (.slice (some a) n c) ∧ wy.cell? ⟨g, 1, none⟩ = some (.int .i64 ((i : Int) + 1)) ∧ wy.cell? (a.add (i * 3)) = some (.int .u64 rn) ∧ wy.cell? ⟨(a.add (i * 3)).block, (a.add (i * 3)).off + 1, none⟩ = some (.slice rA rk rc) ∧ wy.cell? ⟨(a.add (i * 3)).block, (a.add (i * 3)).off + 2, none⟩ = some (.bool rf) := fun wy hy =>
          ⟨hy.drawn.cell (by simp [World.cell?, hg2]), hy.drawn.cell (by simp [World.cell?, hg2]), hy.drawn.cell p0, hy.drawn.cell p1, hy.drawn.cell p2⟩
        refine' wp_region_sure ⟨((some 28, [], none) :: (some 29, [0], none) :: (some 30, [1], none) :: (some 31, [2], none) :: (some 32, [], none) :: (some 33, [4], none) :: (some 34, [5], none) :: (some 35, [6], none) :: (some 36, [7], none) :: (some 37, [3, 8], none) :: (some 38, [9], none) :: (none, [10, 0, 1, 2, 3, 4, 5, 6, 7, 8, 9, 10], none) :: []), (0 :: 1 :: 3 :: 7 :: 0 :: 16 :: 48 :: 112 :: 240 :: 511 :: 1023 :: 2047 :: []), (true :: true :: true :: true :: true :: true :: true :: true :: true :: true :: true :: []), [], 0⟩ 11 47 ((0, 28) :: (1, 29) :: (2, 30) :: (3, 31) :: (4, 32) :: (5, 33) :: (6, 34) :: (7, 35) :: (8, 36) :: (9, 37) :: (10, 38) :: []) ((0, 28) :: (1, 29) :: (2, 30) :: (3, 31) :: (4, 32) :: (5, 33) :: (6, 34) :: (7, 35) :: (8, 36) :: (9, 37) :: (10, 38) :: []) (.det _ :: .det _ :: .det _ :: .det _ :: .det _ :: .det _ :: .det _ :: .det _ :: .det _ :: .det _ :: .det _ :: []) (by kernel_rfl) (by kernel_rfl) (by kernel_rfl) rfl (by kernel_rfl) (by kernel_rfl) rfl ?hone ?hend
        case hone =>
          intro CS frS VS hCS ha hV
          have qs0 := slot_val (t := 0) ha rfl
          simp only [List.getElem_toArray, List.getElem_cons_succ, List.getElem_cons_zero] at qs0
          have HCS := Lib.hid hCS
          have HVS := Lib.hid hV
          clear ha hCS hV
          -- 0: slot 28 := Op.move t0
          refine sure_det (js := []) (ts := [0]) (gd := none) (place_at HVS.out (k := 0) rfl) (by rw [HCS.out]; kernel_rfl) ?_ ?_
          · intro wx hx ρ hρ hs hf
            have hρc := hρ.const
            have hρf := hρ.func
            obtain ⟨fx0, -⟩ := hf
            rw [qs0] at fx0
            clear hs
            clear HCS HVS qs0
            refine run_plain ?_
            refine op_move rfl fx0 ?_
            exact detK.mk
          -- 1: slot 29 := Op.nilCheck t28
          refine sure_det (js := [(0, 28)]) (ts := []) (gd := none) (place_at HVS.out (k := 1) rfl) (by rw [HCS.out]; kernel_rfl) ?_ ?_
          · intro wx hx ρ hρ hs hf
            have hρc := hρ.const
            have hρf := hρ.func
            obtain ⟨sn0, -⟩ := hs
            rw [place_at HVS.out (k := 0) rfl] at sn0
            replace sn0 : ρ (.tmp 28) = _ := sn0
            clear hf
            clear HCS HVS qs0
            refine run_plain ?_
            unfold runs
            go_simp
            exact detK.mk
          -- 2: slot 30 := Op.fieldAddr 113 t29 0
          refine sure_det (js := [(1, 29)]) (ts := []) (gd := none) (place_at HVS.out (k := 2) rfl) (by rw [HCS.out]; kernel_rfl) ?_ ?_
          · intro wx hx ρ hρ hs hf
            have hρc := hρ.const
            have hρf := hρ.func
            obtain ⟨sn1, -⟩ := hs
            rw [place_at HVS.out (k := 1) rfl] at sn1
            replace sn1 : ρ (.tmp 29) = _ := sn1
            clear hf
            clear HCS HVS qs0
            refine run_plain ?_
            unfold runs
            go_simp
            exact detK.mk
          -- 3: slot 31 := Op.load 23 t30
          refine sure_det (js := [(2, 30)]) (ts := []) (gd := none) (place_at HVS.out (k := 3) rfl) (by rw [HCS.out]; kernel_rfl) ?_ ?_
          · intro wx hx ρ hρ hs hf
            have hρc := hρ.const
            have hρf := hρ.func
            obtain ⟨sn2, -⟩ := hs
            rw [place_at HVS.out (k := 2) rfl] at sn2
            replace sn2 : ρ (.tmp 30) = _ := sn2
            clear hf
            clear HCS HVS qs0
            refine run_plain ?_
            obtain ⟨c0, c1, p0, p1, p2⟩ := hX2 wx hx
            unfold runs
            go_simp
            exact detK.mk
          -- 4: slot 32 := Op.move t0
          refine sure_det (js := []) (ts := [0]) (gd := none) (place_at HVS.out (k := 4) rfl) (by rw [HCS.out]; kernel_rfl) ?_ ?_
          · intro wx hx ρ hρ hs hf
            have hρc := hρ.const
            have hρf := hρ.func
            obtain ⟨fx0, -⟩ := hf
            rw [qs0] at fx0
            clear hs
            clear HCS HVS qs0
            refine run_plain ?_
            refine op_move rfl fx0 ?_
            exact detK.mk
          -- 5: slot 33 := Op.nilCheck t32
          refine sure_det (js := [(4, 32)]) (ts := []) (gd := none) (place_at HVS.out (k := 5) rfl) (by rw [HCS.out]; kernel_rfl) ?_ ?_
          · intro wx hx ρ hρ hs hf
            have hρc := hρ.const
            have hρf := hρ.func
            obtain ⟨sn4, -⟩ := hs
            rw [place_at HVS.out (k := 4) rfl] at sn4
            replace sn4 : ρ (.tmp 32) = _ := sn4
            clear hf
            clear HCS HVS qs0
            refine run_plain ?_
            unfold runs
            go_simp
            exact detK.mk
          -- 6: slot 34 := Op.fieldAddr 113 t33 1
          refine sure_det (js := [(5, 33)]) (ts := []) (gd := none) (place_at HVS.out (k := 6) rfl) (by rw [HCS.out]; kernel_rfl) ?_ ?_
          · intro wx hx ρ hρ hs hf
            have hρc := hρ.const
            have hρf := hρ.func
            obtain ⟨sn5, -⟩ := hs
            rw [place_at HVS.out (k := 5) rfl] at sn5
            replace sn5 : ρ (.tmp 33) = _ := sn5
            clear hf
            clear HCS HVS qs0
            refine run_plain ?_
            unfold runs
            go_simp
            exact detK.mk
          -- 7: slot 35 := Op.load 3 t34
          refine sure_det (js := [(6, 34)]) (ts := []) (gd := none) (place_at HVS.out (k := 7) rfl) (by rw [HCS.out]; kernel_rfl) ?_ ?_
          · intro wx hx ρ hρ hs hf
            have hρc := hρ.const
            have hρf := hρ.func
            obtain ⟨sn6, -⟩ := hs
            rw [place_at HVS.out (k := 6) rfl] at sn6
            replace sn6 : ρ (.tmp 34) = _ := sn6
            clear hf
            clear HCS HVS qs0
            refine run_plain ?_
            obtain ⟨c0, c1, p0, p1, p2⟩ := hX2 wx hx
            unfold runs
            go_simp
            exact detK.mk
          -- 8: slot 36 := Op.binOp BinOp.sub 3 t35 ((i64 1)) 3
          refine sure_det (js := [(7, 35)]) (ts := []) (gd := none) (place_at HVS.out (k := 8) rfl) (by rw [HCS.out]; kernel_rfl) ?_ ?_
          · intro wx hx ρ hρ hs hf
            have hρc := hρ.const
            have hρf := hρ.func
            obtain ⟨sn7, -⟩ := hs
            rw [place_at HVS.out (k := 7) rfl] at sn7
            replace sn7 : ρ (.tmp 35) = _ := sn7
            clear hf
            clear HCS HVS qs0
            refine run_plain ?_
            unfold runs
            go_simp
            exact detK.mk
          -- 9: slot 37 := Op.indexAddr 23 t31 t36
          refine sure_det (js := [(3, 31), (8, 36)]) (ts := []) (gd := none) (place_at HVS.out (k := 9) rfl) (by rw [HCS.out]; kernel_rfl) ?_ ?_
          · intro wx hx ρ hρ hs hf
            have hρc := hρ.const
            have hρf := hρ.func
            obtain ⟨sn3, sn8, -⟩ := hs
            rw [place_at HVS.out (k := 3) rfl] at sn3
            replace sn3 : ρ (.tmp 31) = _ := sn3
            rw [place_at HVS.out (k := 8) rfl] at sn8
            replace sn8 : ρ (.tmp 36) = _ := sn8
            clear hf
            clear HCS HVS qs0
            refine run_plain ?_
            unfold runs
            go_simp
            exact detK.mk
          -- 10: slot 38 := Op.load 107 t37
          refine sure_det (js := [(9, 37)]) (ts := []) (gd := none) (place_at HVS.out (k := 10) rfl) (by rw [HCS.out]; kernel_rfl) ?_ ?_
          · intro wx hx ρ hρ hs hf
            have hρc := hρ.const
            have hρf := hρ.func
            obtain ⟨sn9, -⟩ := hs
            rw [place_at HVS.out (k := 9) rfl] at sn9
            replace sn9 : ρ (.tmp 37) = _ := sn9
            clear hf
            clear HCS HVS qs0
            refine run_plain ?_
            obtain ⟨c0, c1, p0, p1, p2⟩ := hX2 wx hx
            unfold runs
            go_simp
            exact detK.mk
          exact trivial
        case hend =>
          intro xs wx hx hg
          have gk0 : xs 0 = _ := goods_get hg (i := 0) (j := 0) (d := 28) rfl
          have gk1 : xs 1 = _ := goods_get hg (i := 1) (j := 1) (d := 29) rfl
          have gk2 : xs 2 = _ := goods_get hg (i := 2) (j := 2) (d := 30) rfl
          have gk3 : xs 3 = _ := goods_get hg (i := 3) (j := 3) (d := 31) rfl
          have gk4 : xs 4 = _ := goods_get hg (i := 4) (j := 4) (d := 32) rfl
          have gk5 : xs 5 = _ := goods_get hg (i := 5) (j := 5) (d := 33) rfl
          have gk6 : xs 6 = _ := goods_get hg (i := 6) (j := 6) (d := 34) rfl
          have gk7 : xs 7 = _ := goods_get hg (i := 7) (j := 7) (d := 35) rfl
          have gk8 : xs 8 = _ := goods_get hg (i := 8) (j := 8) (d := 36) rfl
          have gk9 : xs 9 = _ := goods_get hg (i := 9) (j := 9) (d := 37) rfl
          have gk10 : xs 10 = _ := goods_get hg (i := 10) (j := 10) (d := 38) rfl
          clear hg
          simp only [putAll, gk0, gk1, gk2, gk3, gk4, gk5, gk6, gk7, gk8, gk9, gk10]
          clear gk0 gk1 gk2 gk3 gk4 gk5 gk6 gk7 gk8 gk9 gk10
          clear xs
          simp only [Act.put, List.setIfInBounds_toArray, List.set_cons_zero, List.set_cons_succ, List.drop_succ_cons, List.drop_zero]
          have hr3 := heap_ext hr2 hx.drawn
          have r0 : wx.cell? ⟨w.heap.size + 1, 0, none⟩ = some (.int .u64 0) := by simp [World.cell?, hr3]
          have r1 : wx.cell? ⟨w.heap.size + 1, 1, none⟩ = some (.slice none 0 0) := by simp [World.cell?, hr3]
          have r2 : wx.cell? ⟨w.heap.size + 1, 2, none⟩ = some (.bool false) := by simp [World.cell?, hr3]
          have rf0 : wx.frozen? ⟨w.heap.size + 1, 0, none⟩ = false := by simp [World.frozen?, hr3]
          have rf1 : wx.frozen? ⟨w.heap.size + 1, 1, none⟩ = false := by simp [World.frozen?, hr3]
          have rf2 : wx.frozen? ⟨w.heap.size + 1, 2, none⟩ = false := by simp [World.frozen?, hr3]
          go_wp2
          have e1 : Cu.told rs ⟨i, false, ⟨x0, x1, x2, x3, x4, x5, x6, x7, x8, x9⟩⟩ = ⟨rn, rA, rk, rc, rf⟩ := by simp [Cu.told, hrs]
          have e2 : Cu.next rs ⟨y0, y1, y2, y3, y4, y5, y6, y7, y8, y9⟩ ⟨i, false, ⟨x0, x1, x2, x3, x4, x5, x6, x7, x8, x9⟩⟩ = ⟨i + 1, false, ⟨x0, x1, x2, x3, x4, x5, x6, x7, x8, x9⟩⟩ := by simp [Cu.next, hi]
          refine bodyPost_ret (v := .agg #[.int .u64 rn, .slice rA rk rc, .bool rf]) (by simp [results, Try.results56, go_sem, r0, r1, r2]) rfl ⟨by simp only [e1], ?_, ?_⟩
          · rw [e2]
            have h1 := (setAll_other (g := w.heap.size + 1) (k := g) (by omega) [.int .u64 rn, .slice rA rk rc, .bool rf] 0 wx).trans (heap_ext hg2 hx.drawn)
            exact h1
          · have h1 : ExtB g w wx := hB.trans (ExtB.of hx.drawn)
            exact ((h1.trans_set (by omega)).trans_set (by omega)).trans_set (by omega)
    · have hge : ¬ (i : Int) < (n : Int) := by omega
      go_upto_region 3 with (fail)
      clear c0 c1 c2 c3 c4 c5 c6 c7 c8 cf0 cf1 cf2 cf3 cf4 cf5 cf6 cf7 cf8 r0 r1 r2 rf0 rf1 rf2 z0 z1 z2 z3 z4 z5
      refine' wp_region_sure_all ⟨((some 10, [], none) :: (some 11, [0], none) :: (some 12, [1], none) :: (some 13, [2], none) :: (some 14, [], none) :: (some 15, [4], none) :: (some 16, [5], none) :: (some 17, [6], none) :: (some 18, [7], none) :: (some 19, [3, 8], none) :: []), (0 :: 1 :: 3 :: 7 :: 0 :: 16 :: 48 :: 112 :: 240 :: 511 :: []), (true :: true :: true :: true :: true :: true :: true :: true :: true :: true :: []), [], 0⟩ 10 47 ((0, 10) :: (1, 11) :: (2, 12) :: (3, 13) :: (4, 14) :: (5, 15) :: (6, 16) :: (7, 17) :: (8, 18) :: (9, 19) :: []) ((0, 10) :: (1, 11) :: (2, 12) :: (3, 13) :: (4, 14) :: (5, 15) :: (6, 16) :: (7, 17) :: (8, 18) :: (9, 19) :: []) (.det _ :: .det _ :: .det _ :: .det _ :: .det _ :: .det _ :: .det _ :: .det _ :: .det _ :: .det _ :: []) (by kernel_rfl) (by kernel_rfl) (by kernel_rfl) rfl (by kernel_rfl) (by kernel_rfl) rfl (by kernel_rfl) ?hone ?hend
      case hone =>
        intro CS frS VS hCS ha hV
        have qs0 := slot_val (t := 0) ha rfl
        simp only [List.getElem_toArray, List.getElem_cons_succ, List.getElem_cons_zero] at qs0
        have HCS := Lib.hid hCS
        have HVS := Lib.hid hV
        clear ha hCS hV
        -- 0: slot 10 := Op.move t0
        refine sure_det (js := []) (ts := [0]) (gd := none) (place_at HVS.out (k := 0) rfl) (by rw [HCS.out]; kernel_rfl) ?_ ?_
        · intro wx hx ρ hρ hs hf
          have hρc := hρ.const
          have hρf := hρ.func
          obtain ⟨fx0, -⟩ := hf
          rw [qs0] at fx0
          clear hs
          clear HCS HVS qs0
          refine run_plain ?_
          refine op_move rfl fx0 ?_
          exact detK.mk
        -- 1: slot 11 := Op.nilCheck t10
        refine sure_det (js := [(0, 10)]) (ts := []) (gd := none) (place_at HVS.out (k := 1) rfl) (by rw [HCS.out]; kernel_rfl) ?_ ?_
        · intro wx hx ρ hρ hs hf
          have hρc := hρ.const
          have hρf := hρ.func
          obtain ⟨sn0, -⟩ := hs
          rw [place_at HVS.out (k := 0) rfl] at sn0
          replace sn0 : ρ (.tmp 10) = _ := sn0
          clear hf
          clear HCS HVS qs0
          refine run_plain ?_
          unfold runs
          go_simp
          exact detK.mk
        -- 2: slot 12 := Op.fieldAddr 113 t11 1
        refine sure_det (js := [(1, 11)]) (ts := []) (gd := none) (place_at HVS.out (k := 2) rfl) (by rw [HCS.out]; kernel_rfl) ?_ ?_
        · intro wx hx ρ hρ hs hf
          have hρc := hρ.const
          have hρf := hρ.func
          obtain ⟨sn1, -⟩ := hs
          rw [place_at HVS.out (k := 1) rfl] at sn1
          replace sn1 : ρ (.tmp 11) = _ := sn1
          clear hf
          clear HCS HVS qs0
          refine run_plain ?_
          unfold runs
          go_simp
          exact detK.mk
        -- 3: slot 13 := Op.load 3 t12
        refine sure_det (js := [(2, 12)]) (ts := []) (gd := none) (place_at HVS.out (k := 3) rfl) (by rw [HCS.out]; kernel_rfl) ?_ ?_
        · intro wx hx ρ hρ hs hf
          have hρc := hρ.const
          have hρf := hρ.func
          obtain ⟨sn2, -⟩ := hs
          rw [place_at HVS.out (k := 2) rfl] at sn2
          replace sn2 : ρ (.tmp 12) = _ := sn2
          clear hf
          clear HCS HVS qs0
          refine run_plain ?_
          obtain ⟨c0, c1, -⟩ := hX wx hx.drawn
          unfold runs
          go_simp
          exact detK.mk
        -- 4: slot 14 := Op.move t0
        refine sure_det (js := []) (ts := [0]) (gd := none) (place_at HVS.out (k := 4) rfl) (by rw [HCS.out]; kernel_rfl) ?_ ?_
        · intro wx hx ρ hρ hs hf
          have hρc := hρ.const
          have hρf := hρ.func
          obtain ⟨fx0, -⟩ := hf
          rw [qs0] at fx0
          clear hs
          clear HCS HVS qs0
          refine run_plain ?_
          refine op_move rfl fx0 ?_
          exact detK.mk
        -- 5: slot 15 := Op.nilCheck t14
        refine sure_det (js := [(4, 14)]) (ts := []) (gd := none) (place_at HVS.out (k := 5) rfl) (by rw [HCS.out]; kernel_rfl) ?_ ?_
        · intro wx hx ρ hρ hs hf
          have hρc := hρ.const
          have hρf := hρ.func
          obtain ⟨sn4, -⟩ := hs
          rw [place_at HVS.out (k := 4) rfl] at sn4
          replace sn4 : ρ (.tmp 14) = _ := sn4
          clear hf
          clear HCS HVS qs0
          refine run_plain ?_
          unfold runs
          go_simp
          exact detK.mk
        -- 6: slot 16 := Op.fieldAddr 113 t15 0
        refine sure_det (js := [(5, 15)]) (ts := []) (gd := none) (place_at HVS.out (k := 6) rfl) (by rw [HCS.out]; kernel_rfl) ?_ ?_
        · intro wx hx ρ hρ hs hf
          have hρc := hρ.const
          have hρf := hρ.func
          obtain ⟨sn5, -⟩ := hs
          rw [place_at HVS.out (k := 5) rfl] at sn5
          replace sn5 : ρ (.tmp 15) = _ := sn5
          clear hf
          clear HCS HVS qs0
          refine run_plain ?_
          unfold runs
          go_simp
          exact detK.mk
        -- 7: slot 17 := Op.load 23 t16
        refine sure_det (js := [(6, 16)]) (ts := []) (gd := none) (place_at HVS.out (k := 7) rfl) (by rw [HCS.out]; kernel_rfl) ?_ ?_
        · intro wx hx ρ hρ hs hf
          have hρc := hρ.const
          have hρf := hρ.func
          obtain ⟨sn6, -⟩ := hs
          rw [place_at HVS.out (k := 6) rfl] at sn6
          replace sn6 : ρ (.tmp 16) = _ := sn6
          clear hf
          clear HCS HVS qs0
          refine run_plain ?_
          obtain ⟨c0, c1, -⟩ := hX wx hx.drawn
          unfold runs
          go_simp
          exact detK.mk
        -- 8: slot 18 := Op.call { len, args := #[t17], argTypes := #[23] }
        refine sure_det (js := [(7, 17)]) (ts := []) (gd := none) (place_at HVS.out (k := 8) rfl) (by rw [HCS.out]; kernel_rfl) ?_ ?_
        · intro wx hx ρ hρ hs hf
          have hρc := hρ.const
          have hρf := hρ.func
          obtain ⟨sn7, -⟩ := hs
          rw [place_at HVS.out (k := 7) rfl] at sn7
          replace sn7 : ρ (.tmp 17) = _ := sn7
          clear hf
          clear HCS HVS qs0
          refine run_plain ?_
          unfold runs
          go_simp
          exact detK.mk
        -- 9: slot 19 := Op.binOp BinOp.lss 3 t13 t18 3
        refine sure_det (js := [(3, 13), (8, 18)]) (ts := []) (gd := none) (place_at HVS.out (k := 9) rfl) (by rw [HCS.out]; kernel_rfl) ?_ ?_
        · intro wx hx ρ hρ hs hf
          have hρc := hρ.const
          have hρf := hρ.func
          obtain ⟨sn3, sn8, -⟩ := hs
          rw [place_at HVS.out (k := 3) rfl] at sn3
          replace sn3 : ρ (.tmp 13) = _ := sn3
          rw [place_at HVS.out (k := 8) rfl] at sn8
          replace sn8 : ρ (.tmp 18) = _ := sn8
          clear hf
          clear HCS HVS qs0
          refine run_plain ?_
          unfold runs
          go_simp
          exact detK.mk
        exact trivial
      case hend =>
        intro xs wx hx hg
        have gk0 : xs 0 = _ := goods_get hg (i := 0) (j := 0) (d := 10) rfl
        have gk1 : xs 1 = _ := goods_get hg (i := 1) (j := 1) (d := 11) rfl
        have gk2 : xs 2 = _ := goods_get hg (i := 2) (j := 2) (d := 12) rfl
        have gk3 : xs 3 = _ := goods_get hg (i := 3) (j := 3) (d := 13) rfl
        have gk4 : xs 4 = _ := goods_get hg (i := 4) (j := 4) (d := 14) rfl
        have gk5 : xs 5 = _ := goods_get hg (i := 5) (j := 5) (d := 15) rfl
        have gk6 : xs 6 = _ := goods_get hg (i := 6) (j := 6) (d := 16) rfl
        have gk7 : xs 7 = _ := goods_get hg (i := 7) (j := 7) (d := 17) rfl
        have gk8 : xs 8 = _ := goods_get hg (i := 8) (j := 8) (d := 18) rfl
        have gk9 : xs 9 = _ := goods_get hg (i := 9) (j := 9) (d := 19) rfl
        clear hg
        simp only [putAll, gk0, gk1, gk2, gk3, gk4, gk5, gk6, gk7, gk8, gk9]
        clear gk0 gk1 gk2 gk3 gk4 gk5 gk6 gk7 gk8 gk9
        clear xs
        simp only [Act.put, List.setIfInBounds_toArray, List.set_cons_zero, List.set_cons_succ]
        obtain ⟨-, -, -, hg1, hr1, hy1⟩ := hX wx hx.drawn
        have hE1 := hW.trans hx.drawn
        have HC1 := Lib.hid hg1
        have HR1 := Lib.hid hr1
        have c0 : wx.cell? ⟨g, 0, none⟩ = some (.slice A n c) := by simp [World.cell?, hg1]
        have cf0 : wx.frozen? ⟨g, 0, none⟩ = false := by simp [World.frozen?, hg1]
        have c1 : wx.cell? ⟨g, 1, none⟩ = some (.int .i64 i) := by simp [World.cell?, hg1]
        have cf1 : wx.frozen? ⟨g, 1, none⟩ = false := by simp [World.frozen?, hg1]
        have c2 : wx.cell? ⟨g, 2, none⟩ = some (.bool false) := by simp [World.cell?, hg1]
        have cf2 : wx.frozen? ⟨g, 2, none⟩ = false := by simp [World.frozen?, hg1]
        have c3 : wx.cell? ⟨g, 3, none⟩ = some (.int .i64 x0) := by simp [World.cell?, hg1]
        have cf3 : wx.frozen? ⟨g, 3, none⟩ = false := by simp [World.frozen?, hg1]
        have c4 : wx.cell? ⟨g, 4, none⟩ = some (.int .i64 x1) := by simp [World.cell?, hg1]
        have cf4 : wx.frozen? ⟨g, 4, none⟩ = false := by simp [World.frozen?, hg1]
        have c5 : wx.cell? ⟨g, 5, none⟩ = some (.int .u64 x2) := by simp [World.cell?, hg1]
        have cf5 : wx.frozen? ⟨g, 5, none⟩ = false := by simp [World.frozen?, hg1]
        have c6 : wx.cell? ⟨g, 6, none⟩ = some (.int .u64 x3) := by simp [World.cell?, hg1]
        have cf6 : wx.frozen? ⟨g, 6, none⟩ = false := by simp [World.frozen?, hg1]
        have c7 : wx.cell? ⟨g, 7, none⟩ = some (.slice x4 x5 x6) := by simp [World.cell?, hg1]
        have cf7 : wx.frozen? ⟨g, 7, none⟩ = false := by simp [World.frozen?, hg1]
        have c8 : wx.cell? ⟨g, 8, none⟩ = some (.slice x7 x8 x9) := by simp [World.cell?, hg1]
        have cf8 : wx.frozen? ⟨g, 8, none⟩ = false := by simp [World.frozen?, hg1]
        have r0 : wx.cell? ⟨w.heap.size + 1, 0, none⟩ = some (.int .u64 0) := by simp [World.cell?, hr1]
        have rf0 : wx.frozen? ⟨w.heap.size + 1, 0, none⟩ = false := by simp [World.frozen?, hr1]
        have r1 : wx.cell? ⟨w.heap.size + 1, 1, none⟩ = some (.slice none 0 0) := by simp [World.cell?, hr1]
        have rf1 : wx.frozen? ⟨w.heap.size + 1, 1, none⟩ = false := by simp [World.frozen?, hr1]
        have r2 : wx.cell? ⟨w.heap.size + 1, 2, none⟩ = some (.bool false) := by simp [World.cell?, hr1]
        have rf2 : wx.frozen? ⟨w.heap.size + 1, 2, none⟩ = false := by simp [World.frozen?, hr1]
        have z0 : wx.cell? ⟨w.heap.size, 0, none⟩ = some (.int .i64 y0) := by simp [World.cell?, hy1]
        have z1 : wx.cell? ⟨w.heap.size, 1, none⟩ = some (.int .i64 y1) := by simp [World.cell?, hy1]
        have z2 : wx.cell? ⟨w.heap.size, 2, none⟩ = some (.int .u64 y2) := by simp [World.cell?, hy1]
        have z3 : wx.cell? ⟨w.heap.size, 3, none⟩ = some (.int .u64 y3) := by simp [World.cell?, hy1]
        have z4 : wx.cell? ⟨w.heap.size, 4, none⟩ = some (.slice y4 y5 y6) := by simp [World.cell?, hy1]
        have z5 : wx.cell? ⟨w.heap.size, 5, none⟩ = some (.slice y7 y8 y9) := by simp [World.cell?, hy1]
        clear hg1 hr1 hy1 hX
        go_wp2
        have e1 : Cu.told rs ⟨i, false, ⟨x0, x1, x2, x3, x4, x5, x6, x7, x8, x9⟩⟩ = Res.zero := by simp [Cu.told, hi]
        have e2 : Cu.next rs ⟨y0, y1, y2, y3, y4, y5, y6, y7, y8, y9⟩ ⟨i, false, ⟨x0, x1, x2, x3, x4, x5, x6, x7, x8, x9⟩⟩ = ⟨i, true, ⟨y0, y1, y2, y3, y4, y5, y6, y7, y8, y9⟩⟩ := by simp [Cu.next, Nat.not_lt.2 hi]
        refine bodyPost_ret (v := .agg #[.int .u64 0, .slice none 0 0, .bool false]) (by simp [results, Try.results56, go_sem, r0, r1, r2]) rfl ⟨by simp only [e1, Res.zero], ?_, ?_⟩
        · rw [e2]
          have h1 : (setAll g 2 [.bool true, .int .i64 y0, .int .i64 y1, .int .u64 y2, .int .u64 y3, .slice y4 y5 y6, .slice y7 y8 y9] wx).heap[g]? = some (.cells (([.slice A n c, .int .i64 i] ++ [.bool true, .int .i64 y0, .int .i64 y1, .int .u64 y2, .int .u64 y3, .slice y4 y5 y6, .slice y7 y8 y9] : List Value)).toArray 113 (0, 0)) :=
            setAll_same _ [.slice A n c, .int .i64 i] [.bool false, .int .i64 x0, .int .i64 x1, .int .u64 x2, .int .u64 x3, .slice x4 x5 x6, .slice x7 x8 x9] wx HC1.out rfl
          have h2 := (setAll_other (g := w.heap.size + 1) (k := g) (by omega) [.int .u64 0, .slice none 0 0, .bool false] 0 _).trans h1
          exact h2
        · have h1 : ExtB g w wx := ExtB.of hE1
          have h2 : ExtB g w (((((((wx.setCell ⟨g, 2, none⟩ (.bool true)).setCell ⟨g, 3, none⟩ (.int .i64 y0)).setCell ⟨g, 4, none⟩ (.int .i64 y1)).setCell ⟨g, 5, none⟩ (.int .u64 y2)).setCell ⟨g, 6, none⟩ (.int .u64 y3)).setCell ⟨g, 7, none⟩ (.slice y4 y5 y6)).setCell ⟨g, 8, none⟩ (.slice y7 y8 y9)) :=
            ((((((h1.set _ _).set _ _).set _ _).set _ _).set _ _).set _ _).set _ _
          exact ((h2.trans_set (by omega)).trans_set (by omega)).trans_set (by omega)
end Go.Proofs.Ythgcpfofdbdkpaa
