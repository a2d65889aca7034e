import Derived.Test.YtennnhfaghdeoaaAccBox
import Derived.Lib.Hide
namespace Go.Proofs.Ytennnhfaghdeoaa
open Go.RowKit

/-! access.words. -/
set_option maxRecDepth 100000 in
set_option maxHeartbeats 1000000 in
theorem turn1_any (old : Int) (k ce a b : Int) (D : Option Addr) (m cd : Nat) (B : Option Addr) (q2 cb : Nat) (w : World) :
  Calls Try.prog 100 #[.int .u64 old, .agg #[.int .i64 k, .int .i64 ce, .int .u64 a, .int .u64 b, .slice D m cd, .slice B q2 cb]] w fun e w' => e = .returned (.tuple #[.int .u64 old, .int .u64 old]) ∧ Ext w w' := by
 have hE : Ext w (w.alloc (.cells #[.int .i64 k, .int .i64 ce, .int .u64 a, .int .u64 b, .slice D m cd, .slice B q2 cb] 42)) := (Below.refl _ w).alloc (Nat.le_refl _) _
 have hX : ∀ wx, Ext (w.alloc (.cells #[.int .i64 k, .int .i64 ce, .int .u64 a, .int .u64 b, .slice D m cd, .slice B q2 cb] 42)) wx → wx.cell? ⟨w.heap.size, 2, none⟩ = some (.int .u64 a) ∧ wx.cell? ⟨w.heap.size, 3, none⟩ = some (.int .u64 b) := fun wx hx => ⟨hx.cell (by simp [go_sem]), hx.cell (by simp [go_sem])⟩
 go_enter Try.func100, Try.ntmps100
 go_wp2
 refine bodyPost_ret (v := .tuple #[.int .u64 old, .int .u64 old]) (by simp [results, Try.results100, go_sem]) rfl ⟨rfl, hE⟩
set_option maxRecDepth 100000 in
set_option maxHeartbeats 1000000 in
theorem turn2_any (old : Int) (k ce a b : Int) (D : Option Addr) (m cd : Nat) (B : Option Addr) (q2 cb : Nat) (w : World) :
  Calls Try.prog 101 #[.int .u64 old, .agg #[.int .i64 k, .int .i64 ce, .int .u64 a, .int .u64 b, .slice D m cd, .slice B q2 cb]] w fun e w' => e = .returned (.tuple #[.int .u64 0, .int .u64 a]) ∧ Ext w w' := by
 have hE : Ext w (w.alloc (.cells #[.int .i64 k, .int .i64 ce, .int .u64 a, .int .u64 b, .slice D m cd, .slice B q2 cb] 42)) := (Below.refl _ w).alloc (Nat.le_refl _) _
 have hX : ∀ wx, Ext (w.alloc (.cells #[.int .i64 k, .int .i64 ce, .int .u64 a, .int .u64 b, .slice D m cd, .slice B q2 cb] 42)) wx → wx.cell? ⟨w.heap.size, 2, none⟩ = some (.int .u64 a) ∧ wx.cell? ⟨w.heap.size, 3, none⟩ = some (.int .u64 b) := fun wx hx => ⟨hx.cell (by simp [go_sem]), hx.cell (by simp [go_sem])⟩
 go_enter Try.func101, Try.ntmps101
 go_upto_region 1 with (fail)
 generalize hWW : w.alloc (.cells #[.int .i64 k, .int .i64 ce, .int .u64 a, .int .u64 b, .slice D m cd, .slice B q2 cb] 42) = W at *
 refine' wp_region_sure_all ⟨[(some 6, [], none), (some 7, [0], none), (some 4, [], none), (some 5, [1, 2, 0, 1, 2], none)], [0, 1, 0, 7], [true, true, true, true], [], 0⟩ 4 8 [(0, 6), (1, 7), (2, 4), (3, 5)] [(0, 6), (1, 7), (2, 4), (3, 5)] [.det _, .det _, .det _, .det _] (by kernel_rfl) (by kernel_rfl) (by kernel_rfl) rfl (by kernel_rfl) (by kernel_rfl) rfl (by kernel_rfl) ?hone ?hend
 case hone =>
  intro CS frS VS hCS ha hV
  have qs3 := slot_val (t := 3) ha rfl
  simp only [List.getElem_toArray, List.getElem_cons_succ, List.getElem_cons_zero] at qs3
  have HCS := Lib.hid hCS
  have HVS := Lib.hid hV
  clear ha hCS hV
  refine sure_det (js := []) (ts := [3]) (gd := none) (place_at HVS.out (k := 0) rfl) (by rw [HCS.out]; kernel_rfl) ?_ ?_
  ·intro wx hx ρ hρ hs hf; have hρc := hρ.const; have hρf := hρ.func
   obtain ⟨fx3, -⟩ := hf; rw [qs3] at fx3
   clear hs
   clear HCS HVS qs3
   refine run_plain ?_
   unfold runs
   go_simp
   exact detK.mk
  refine sure_det (js := [(0, 6)]) (ts := []) (gd := none) (place_at HVS.out (k := 1) rfl) (by rw [HCS.out]; kernel_rfl) ?_ ?_
  ·intro wx hx ρ hρ hs hf; have hρc := hρ.const; have hρf := hρ.func; obtain ⟨sn0, -⟩ := hs; rw [place_at HVS.out (k := 0) rfl] at sn0; replace sn0 : ρ (.tmp 6) = _ := sn0
   clear hf
   clear HCS HVS qs3
   refine run_plain ?_
   obtain ⟨c2, c3⟩ := hX wx hx.drawn
   unfold runs
   go_simp
   exact detK.mk
  refine sure_det (js := []) (ts := []) (gd := none) (place_at HVS.out (k := 2) rfl) (by rw [HCS.out]; kernel_rfl) ?_ ?_
  ·intro wx hx ρ hρ hs hf; have hρc := hρ.const; have hρf := hρ.func
   clear hs
   clear hf
   clear HCS HVS qs3
   refine run_plain ?_
   refine op_assign rfl (hρ.const _) ?_
   exact detK.mk
  refine sure_det (js := [(1, 7)]) (ts := []) (gd := none) (place_at HVS.out (k := 3) rfl) (by rw [HCS.out]; kernel_rfl) ?_ ?_
  ·intro wx hx ρ hρ hs hf; have hρc := hρ.const; have hρf := hρ.func; obtain ⟨sn1, -⟩ := hs; rw [place_at HVS.out (k := 1) rfl] at sn1; replace sn1 : ρ (.tmp 7) = _ := sn1
   clear hf
   clear HCS HVS qs3
   refine run_plain ?_
   refine op_assign rfl sn1 ?_
   exact detK.mk
  exact trivial
 case hend =>
  intro xs wx hx hg
  have gk0 : xs 0 = _ := goods_get hg (i := 0) (j := 0) (d := 6) rfl
  have gk1 : xs 1 = _ := goods_get hg (i := 1) (j := 1) (d := 7) rfl
  have gk2 : xs 2 = _ := goods_get hg (i := 2) (j := 2) (d := 4) rfl
  have gk3 : xs 3 = _ := goods_get hg (i := 3) (j := 3) (d := 5) rfl
  clear hg
  simp only [putAll, gk0, gk1, gk2, gk3]
  clear gk0 gk1 gk2 gk3
  clear xs
  simp only [Act.put, List.setIfInBounds_toArray, List.set_cons_zero, List.set_cons_succ]
  replace hE := hE.trans hx.drawn
  go_wp2
  refine bodyPost_ret (v := .tuple #[.int .u64 0, .int .u64 a]) (by simp [results, Try.results101, go_sem]) rfl ⟨rfl, hE⟩
set_option maxRecDepth 100000 in
set_option maxHeartbeats 1000000 in
theorem turn3_any (old : Int) (k ce a b : Int) (D : Option Addr) (m cd : Nat) (B : Option Addr) (q2 cb : Nat) (w : World) :
  Calls Try.prog 102 #[.int .u64 old, .agg #[.int .i64 k, .int .i64 ce, .int .u64 a, .int .u64 b, .slice D m cd, .slice B q2 cb]] w fun e w' => e = .returned (.tuple #[.int .u64 (if old = a then 1 else 0), .int .u64 (if old = a then b else old)]) ∧ Ext w w' := by
 have hE : Ext w (w.alloc (.cells #[.int .i64 k, .int .i64 ce, .int .u64 a, .int .u64 b, .slice D m cd, .slice B q2 cb] 42)) := (Below.refl _ w).alloc (Nat.le_refl _) _
 by_cases h : old = a
 ·rw [if_pos h, if_pos h]
  have hX : ∀ wx, Ext (w.alloc (.cells #[.int .i64 k, .int .i64 ce, .int .u64 a, .int .u64 b, .slice D m cd, .slice B q2 cb] 42)) wx → wx.cell? ⟨w.heap.size, 2, none⟩ = some (.int .u64 a) ∧ wx.cell? ⟨w.heap.size, 3, none⟩ = some (.int .u64 b) := fun wx hx => ⟨hx.cell (by simp [go_sem]), hx.cell (by simp [go_sem])⟩
  go_enter Try.func102, Try.ntmps102
  go_upto_region 2 with (fail)
  generalize hWW : w.alloc (.cells #[.int .i64 k, .int .i64 ce, .int .u64 a, .int .u64 b, .slice D m cd, .slice B q2 cb] 42) = W at *
  refine' wp_region_sure_all ⟨[(some 10, [], none), (some 11, [0], none), (some 4, [], none), (some 5, [1, 2, 0, 1, 2], none)], [0, 1, 0, 7], [true, true, true, true], [], 0⟩ 4 13 [(0, 10), (1, 11), (2, 4), (3, 5)] [(0, 10), (1, 11), (2, 4), (3, 5)] [.det _, .det _, .det _, .det _] (by kernel_rfl) (by kernel_rfl) (by kernel_rfl) rfl (by kernel_rfl) (by kernel_rfl) rfl (by kernel_rfl) ?hone ?hend
  case hone =>
   intro CS frS VS hCS ha hV
   have qs3 := slot_val (t := 3) ha rfl
   simp only [List.getElem_toArray, List.getElem_cons_succ, List.getElem_cons_zero] at qs3
   have HCS := Lib.hid hCS
   have HVS := Lib.hid hV
   clear ha hCS hV
   refine sure_det (js := []) (ts := [3]) (gd := none) (place_at HVS.out (k := 0) rfl) (by rw [HCS.out]; kernel_rfl) ?_ ?_
   ·intro wx hx ρ hρ hs hf; have hρc := hρ.const; have hρf := hρ.func
    obtain ⟨fx3, -⟩ := hf; rw [qs3] at fx3
    clear hs
    clear HCS HVS qs3
    refine run_plain ?_
    unfold runs
    go_simp
    exact detK.mk
   refine sure_det (js := [(0, 10)]) (ts := []) (gd := none) (place_at HVS.out (k := 1) rfl) (by rw [HCS.out]; kernel_rfl) ?_ ?_
   ·intro wx hx ρ hρ hs hf; have hρc := hρ.const; have hρf := hρ.func; obtain ⟨sn0, -⟩ := hs; rw [place_at HVS.out (k := 0) rfl] at sn0; replace sn0 : ρ (.tmp 10) = _ := sn0
    clear hf
    clear HCS HVS qs3
    refine run_plain ?_
    obtain ⟨c2, c3⟩ := hX wx hx.drawn
    unfold runs
    go_simp
    exact detK.mk
   refine sure_det (js := []) (ts := []) (gd := none) (place_at HVS.out (k := 2) rfl) (by rw [HCS.out]; kernel_rfl) ?_ ?_
   ·intro wx hx ρ hρ hs hf; have hρc := hρ.const; have hρf := hρ.func
    clear hs
    clear hf
    clear HCS HVS qs3
    refine run_plain ?_
    refine op_assign rfl (hρ.const _) ?_
    exact detK.mk
   refine sure_det (js := [(1, 11)]) (ts := []) (gd := none) (place_at HVS.out (k := 3) rfl) (by rw [HCS.out]; kernel_rfl) ?_ ?_
   ·intro wx hx ρ hρ hs hf; have hρc := hρ.const; have hρf := hρ.func; obtain ⟨sn1, -⟩ := hs; rw [place_at HVS.out (k := 1) rfl] at sn1; replace sn1 : ρ (.tmp 11) = _ := sn1
    clear hf
    clear HCS HVS qs3
    refine run_plain ?_
    refine op_assign rfl sn1 ?_
    exact detK.mk
   exact trivial
  case hend =>
   intro xs wx hx hg
   have gk0 : xs 0 = _ := goods_get hg (i := 0) (j := 0) (d := 10) rfl
   have gk1 : xs 1 = _ := goods_get hg (i := 1) (j := 1) (d := 11) rfl
   have gk2 : xs 2 = _ := goods_get hg (i := 2) (j := 2) (d := 4) rfl
   have gk3 : xs 3 = _ := goods_get hg (i := 3) (j := 3) (d := 5) rfl
   clear hg
   simp only [putAll, gk0, gk1, gk2, gk3]
   clear gk0 gk1 gk2 gk3
   clear xs
   simp only [Act.put, List.setIfInBounds_toArray, List.set_cons_zero, List.set_cons_succ]
   replace hE := hE.trans hx.drawn
   go_wp2
   refine bodyPost_ret (v := .tuple #[.int .u64 1, .int .u64 b]) (by simp [results, Try.results102, go_sem]) rfl ⟨rfl, hE⟩
 ·rw [if_neg h, if_neg h]
  have hX : ∀ wx, Ext (w.alloc (.cells #[.int .i64 k, .int .i64 ce, .int .u64 a, .int .u64 b, .slice D m cd, .slice B q2 cb] 42)) wx → wx.cell? ⟨w.heap.size, 2, none⟩ = some (.int .u64 a) ∧ wx.cell? ⟨w.heap.size, 3, none⟩ = some (.int .u64 b) := fun wx hx => ⟨hx.cell (by simp [go_sem]), hx.cell (by simp [go_sem])⟩
  go_enter Try.func102, Try.ntmps102
  go_wp2
  refine bodyPost_ret (v := .tuple #[.int .u64 0, .int .u64 old]) (by simp [results, Try.results102, go_sem]) rfl ⟨rfl, hE⟩
set_option maxRecDepth 100000 in
set_option maxHeartbeats 1000000 in
theorem turn4_any (old : Int) (k ce a b : Int) (D : Option Addr) (m cd : Nat) (B : Option Addr) (q2 cb : Nat) (w : World) :
  Calls Try.prog 103 #[.int .u64 old, .agg #[.int .i64 k, .int .i64 ce, .int .u64 a, .int .u64 b, .slice D m cd, .slice B q2 cb]] w fun e w' => e = .returned (.tuple #[.int .u64 old, .int .u64 ((old + a) % 18446744073709551616)]) ∧ Ext w w' := by
 have hE : Ext w (w.alloc (.cells #[.int .i64 k, .int .i64 ce, .int .u64 a, .int .u64 b, .slice D m cd, .slice B q2 cb] 42)) := (Below.refl _ w).alloc (Nat.le_refl _) _
 have hX : ∀ wx, Ext (w.alloc (.cells #[.int .i64 k, .int .i64 ce, .int .u64 a, .int .u64 b, .slice D m cd, .slice B q2 cb] 42)) wx → wx.cell? ⟨w.heap.size, 2, none⟩ = some (.int .u64 a) ∧ wx.cell? ⟨w.heap.size, 3, none⟩ = some (.int .u64 b) := fun wx hx => ⟨hx.cell (by simp [go_sem]), hx.cell (by simp [go_sem])⟩
 go_enter Try.func103, Try.ntmps103
 go_upto_region 1 with (fail)
 generalize hWW : w.alloc (.cells #[.int .i64 k, .int .i64 ce, .int .u64 a, .int .u64 b, .slice D m cd, .slice B q2 cb] 42) = W at *
 refine' wp_region_sure_all ⟨((some 6, [], none) :: (some 7, [], none) :: (some 8, [], none) :: (some 9, [2], none) :: (some 10, [1, 3], none) :: (some 4, [0, 0], none) :: (some 5, [4, 5, 0, 1, 2, 3, 4, 5], none) :: []), (0 :: 0 :: 0 :: 4 :: 14 :: 1 :: 63 :: []), (true :: true :: true :: true :: true :: true :: true :: []), [], 0⟩ 7 11 ((0, 6) :: (1, 7) :: (2, 8) :: (3, 9) :: (4, 10) :: (5, 4) :: (6, 5) :: []) ((0, 6) :: (1, 7) :: (2, 8) :: (3, 9) :: (4, 10) :: (5, 4) :: (6, 5) :: []) (.det _ :: .det _ :: .det _ :: .det _ :: .det _ :: .det _ :: .det _ :: []) (by kernel_rfl) (by kernel_rfl) (by kernel_rfl) rfl (by kernel_rfl) (by kernel_rfl) rfl (by kernel_rfl) ?hone ?hend
 case hone =>
  intro CS frS VS hCS ha hV
  have qs0 := slot_val (t := 0) ha rfl
  simp only [List.getElem_toArray, List.getElem_cons_succ, List.getElem_cons_zero] at qs0
  have qs3 := slot_val (t := 3) ha rfl
  simp only [List.getElem_toArray, List.getElem_cons_succ, List.getElem_cons_zero] at qs3
  have HCS := Lib.hid hCS
  have HVS := Lib.hid hV
  clear ha hCS hV
  refine sure_det (js := []) (ts := [0]) (gd := none) (place_at HVS.out (k := 0) rfl) (by rw [HCS.out]; kernel_rfl) ?_ ?_
  ·intro wx hx ρ hρ hs hf; have hρc := hρ.const; have hρf := hρ.func
   obtain ⟨fx0, -⟩ := hf; rw [qs0] at fx0
   clear hs
   clear HCS HVS qs0 qs3
   refine run_plain ?_
   refine op_move rfl fx0 ?_
   exact detK.mk
  refine sure_det (js := []) (ts := [0]) (gd := none) (place_at HVS.out (k := 1) rfl) (by rw [HCS.out]; kernel_rfl) ?_ ?_
  ·intro wx hx ρ hρ hs hf; have hρc := hρ.const; have hρf := hρ.func
   obtain ⟨fx0, -⟩ := hf; rw [qs0] at fx0
   clear hs
   clear HCS HVS qs0 qs3
   refine run_plain ?_
   refine op_move rfl fx0 ?_
   exact detK.mk
  refine sure_det (js := []) (ts := [3]) (gd := none) (place_at HVS.out (k := 2) rfl) (by rw [HCS.out]; kernel_rfl) ?_ ?_
  ·intro wx hx ρ hρ hs hf; have hρc := hρ.const; have hρf := hρ.func
   obtain ⟨fx3, -⟩ := hf; rw [qs3] at fx3
   clear hs
   clear HCS HVS qs0 qs3
   refine run_plain ?_
   unfold runs
   go_simp
   exact detK.mk
  refine sure_det (js := [(2, 8)]) (ts := []) (gd := none) (place_at HVS.out (k := 3) rfl) (by rw [HCS.out]; kernel_rfl) ?_ ?_
  ·intro wx hx ρ hρ hs hf; have hρc := hρ.const; have hρf := hρ.func; obtain ⟨sn2, -⟩ := hs; rw [place_at HVS.out (k := 2) rfl] at sn2; replace sn2 : ρ (.tmp 8) = _ := sn2
   clear hf
   clear HCS HVS qs0 qs3
   refine run_plain ?_
   obtain ⟨c2, c3⟩ := hX wx hx.drawn
   unfold runs
   go_simp
   exact detK.mk
  refine sure_det (js := [(1, 7), (3, 9)]) (ts := []) (gd := none) (place_at HVS.out (k := 4) rfl) (by rw [HCS.out]; kernel_rfl) ?_ ?_
  ·intro wx hx ρ hρ hs hf; have hρc := hρ.const; have hρf := hρ.func; obtain ⟨sn1, sn3, -⟩ := hs; rw [place_at HVS.out (k := 1) rfl] at sn1; replace sn1 : ρ (.tmp 7) = _ := sn1; rw [place_at HVS.out (k := 3) rfl] at sn3; replace sn3 : ρ (.tmp 9) = _ := sn3
   clear hf
   clear HCS HVS qs0 qs3
   refine run_plain ?_
   unfold runs
   go_simp
   exact detK.mk
  refine sure_det (js := [(0, 6)]) (ts := []) (gd := none) (place_at HVS.out (k := 5) rfl) (by rw [HCS.out]; kernel_rfl) ?_ ?_
  ·intro wx hx ρ hρ hs hf; have hρc := hρ.const; have hρf := hρ.func; obtain ⟨sn0, -⟩ := hs; rw [place_at HVS.out (k := 0) rfl] at sn0; replace sn0 : ρ (.tmp 6) = _ := sn0
   clear hf
   clear HCS HVS qs0 qs3
   refine run_plain ?_
   refine op_assign rfl sn0 ?_
   exact detK.mk
  refine sure_det (js := [(4, 10)]) (ts := []) (gd := none) (place_at HVS.out (k := 6) rfl) (by rw [HCS.out]; kernel_rfl) ?_ ?_
  ·intro wx hx ρ hρ hs hf; have hρc := hρ.const; have hρf := hρ.func; obtain ⟨sn4, -⟩ := hs; rw [place_at HVS.out (k := 4) rfl] at sn4; replace sn4 : ρ (.tmp 10) = _ := sn4
   clear hf
   clear HCS HVS qs0 qs3
   refine run_plain ?_
   refine op_assign rfl sn4 ?_
   exact detK.mk
  exact trivial
 case hend =>
  intro xs wx hx hg
  have gk0 : xs 0 = _ := goods_get hg (i := 0) (j := 0) (d := 6) rfl
  have gk1 : xs 1 = _ := goods_get hg (i := 1) (j := 1) (d := 7) rfl
  have gk2 : xs 2 = _ := goods_get hg (i := 2) (j := 2) (d := 8) rfl
  have gk3 : xs 3 = _ := goods_get hg (i := 3) (j := 3) (d := 9) rfl
  have gk4 : xs 4 = _ := goods_get hg (i := 4) (j := 4) (d := 10) rfl
  have gk5 : xs 5 = _ := goods_get hg (i := 5) (j := 5) (d := 4) rfl
  have gk6 : xs 6 = _ := goods_get hg (i := 6) (j := 6) (d := 5) rfl
  clear hg
  simp only [putAll, gk0, gk1, gk2, gk3, gk4, gk5, gk6]
  clear gk0 gk1 gk2 gk3 gk4 gk5 gk6
  clear xs
  simp only [Act.put, List.setIfInBounds_toArray, List.set_cons_zero, List.set_cons_succ]
  replace hE := hE.trans hx.drawn
  go_wp2
  refine bodyPost_ret (v := .tuple #[.int .u64 old, .int .u64 ((old + a) % 18446744073709551616)]) (by simp [results, Try.results103, go_sem]; exact IntKind.wrap_u64 _) rfl ⟨rfl, hE⟩
set_option maxRecDepth 100000 in
set_option maxHeartbeats 1000000 in
theorem turn5_any (old : Int) (k ce a b : Int) (D : Option Addr) (m cd : Nat) (B : Option Addr) (q2 cb : Nat) (w : World) :
  Calls Try.prog 104 #[.int .u64 old, .agg #[.int .i64 k, .int .i64 ce, .int .u64 a, .int .u64 b, .slice D m cd, .slice B q2 cb]] w fun e w' => e = .returned (.tuple #[.int .u64 old, .int .u64 a]) ∧ Ext w w' := by
 have hE : Ext w (w.alloc (.cells #[.int .i64 k, .int .i64 ce, .int .u64 a, .int .u64 b, .slice D m cd, .slice B q2 cb] 42)) := (Below.refl _ w).alloc (Nat.le_refl _) _
 have hX : ∀ wx, Ext (w.alloc (.cells #[.int .i64 k, .int .i64 ce, .int .u64 a, .int .u64 b, .slice D m cd, .slice B q2 cb] 42)) wx → wx.cell? ⟨w.heap.size, 2, none⟩ = some (.int .u64 a) ∧ wx.cell? ⟨w.heap.size, 3, none⟩ = some (.int .u64 b) := fun wx hx => ⟨hx.cell (by simp [go_sem]), hx.cell (by simp [go_sem])⟩
 go_enter Try.func104, Try.ntmps104
 go_upto_region 1 with (fail)
 generalize hWW : w.alloc (.cells #[.int .i64 k, .int .i64 ce, .int .u64 a, .int .u64 b, .slice D m cd, .slice B q2 cb] 42) = W at *
 refine' wp_region_sure_all ⟨[(some 6, [], none), (some 7, [], none), (some 8, [1], none), (some 4, [0, 0], none), (some 5, [2, 3, 0, 1, 2, 3], none)], [0, 0, 2, 1, 15], [true, true, true, true, true], [], 0⟩ 5 9 [(0, 6), (1, 7), (2, 8), (3, 4), (4, 5)] [(0, 6), (1, 7), (2, 8), (3, 4), (4, 5)] [.det _, .det _, .det _, .det _, .det _] (by kernel_rfl) (by kernel_rfl) (by kernel_rfl) rfl (by kernel_rfl) (by kernel_rfl) rfl (by kernel_rfl) ?hone ?hend
 case hone =>
  intro CS frS VS hCS ha hV
  have qs0 := slot_val (t := 0) ha rfl
  simp only [List.getElem_toArray, List.getElem_cons_succ, List.getElem_cons_zero] at qs0
  have qs3 := slot_val (t := 3) ha rfl
  simp only [List.getElem_toArray, List.getElem_cons_succ, List.getElem_cons_zero] at qs3
  have HCS := Lib.hid hCS
  have HVS := Lib.hid hV
  clear ha hCS hV
  refine sure_det (js := []) (ts := [0]) (gd := none) (place_at HVS.out (k := 0) rfl) (by rw [HCS.out]; kernel_rfl) ?_ ?_
  ·intro wx hx ρ hρ hs hf; have hρc := hρ.const; have hρf := hρ.func
   obtain ⟨fx0, -⟩ := hf; rw [qs0] at fx0
   clear hs
   clear HCS HVS qs0 qs3
   refine run_plain ?_
   refine op_move rfl fx0 ?_
   exact detK.mk
  refine sure_det (js := []) (ts := [3]) (gd := none) (place_at HVS.out (k := 1) rfl) (by rw [HCS.out]; kernel_rfl) ?_ ?_
  ·intro wx hx ρ hρ hs hf; have hρc := hρ.const; have hρf := hρ.func
   obtain ⟨fx3, -⟩ := hf; rw [qs3] at fx3
   clear hs
   clear HCS HVS qs0 qs3
   refine run_plain ?_
   unfold runs
   go_simp
   exact detK.mk
  refine sure_det (js := [(1, 7)]) (ts := []) (gd := none) (place_at HVS.out (k := 2) rfl) (by rw [HCS.out]; kernel_rfl) ?_ ?_
  ·intro wx hx ρ hρ hs hf; have hρc := hρ.const; have hρf := hρ.func; obtain ⟨sn1, -⟩ := hs; rw [place_at HVS.out (k := 1) rfl] at sn1; replace sn1 : ρ (.tmp 7) = _ := sn1
   clear hf
   clear HCS HVS qs0 qs3
   refine run_plain ?_
   obtain ⟨c2, c3⟩ := hX wx hx.drawn
   unfold runs
   go_simp
   exact detK.mk
  refine sure_det (js := [(0, 6)]) (ts := []) (gd := none) (place_at HVS.out (k := 3) rfl) (by rw [HCS.out]; kernel_rfl) ?_ ?_
  ·intro wx hx ρ hρ hs hf; have hρc := hρ.const; have hρf := hρ.func; obtain ⟨sn0, -⟩ := hs; rw [place_at HVS.out (k := 0) rfl] at sn0; replace sn0 : ρ (.tmp 6) = _ := sn0
   clear hf
   clear HCS HVS qs0 qs3
   refine run_plain ?_
   refine op_assign rfl sn0 ?_
   exact detK.mk
  refine sure_det (js := [(2, 8)]) (ts := []) (gd := none) (place_at HVS.out (k := 4) rfl) (by rw [HCS.out]; kernel_rfl) ?_ ?_
  ·intro wx hx ρ hρ hs hf; have hρc := hρ.const; have hρf := hρ.func; obtain ⟨sn2, -⟩ := hs; rw [place_at HVS.out (k := 2) rfl] at sn2; replace sn2 : ρ (.tmp 8) = _ := sn2
   clear hf
   clear HCS HVS qs0 qs3
   refine run_plain ?_
   refine op_assign rfl sn2 ?_
   exact detK.mk
  exact trivial
 case hend =>
  intro xs wx hx hg
  have gk0 : xs 0 = _ := goods_get hg (i := 0) (j := 0) (d := 6) rfl
  have gk1 : xs 1 = _ := goods_get hg (i := 1) (j := 1) (d := 7) rfl
  have gk2 : xs 2 = _ := goods_get hg (i := 2) (j := 2) (d := 8) rfl
  have gk3 : xs 3 = _ := goods_get hg (i := 3) (j := 3) (d := 4) rfl
  have gk4 : xs 4 = _ := goods_get hg (i := 4) (j := 4) (d := 5) rfl
  clear hg
  simp only [putAll, gk0, gk1, gk2, gk3, gk4]
  clear gk0 gk1 gk2 gk3 gk4
  clear xs
  simp only [Act.put, List.setIfInBounds_toArray, List.set_cons_zero, List.set_cons_succ]
  replace hE := hE.trans hx.drawn
  go_wp2
  refine bodyPost_ret (v := .tuple #[.int .u64 old, .int .u64 a]) (by simp [results, Try.results104, go_sem]) rfl ⟨rfl, hE⟩
def turnTab : Array Value := #[.int .i64 0, .func (.func 100) #[] #[], .int .i64 1, .func (.func 101) #[] #[], .int .i64 2, .func (.func 102) #[] #[], .int .i64 3, .func (.func 103) #[] #[], .int .i64 4, .func (.func 104) #[] #[]]
set_option maxRecDepth 100000 in
set_option maxHeartbeats 1000000 in
theorem turns_any (w : World) : Calls Try.prog 98 #[] w fun e w' => e = .returned (.slice (some ⟨w.heap.size, 0, none⟩) 5 5) ∧ w'.heap[w.heap.size]? = some (.cells turnTab 150 (0, 0)) ∧ Ext w w' := by
 have hb : ∀ (W : World) (i : Int) (f : FuncId), (Instr.build 150 #[(0, .int .i64 i), (1, .func (.func f) #[] #[])]).run Try.prog W = .ok (.agg #[.int .i64 i, .func (.func f) #[] #[]]) W := fun _ _ _ => by kernel_rfl
 have hbs : ∀ (W : World) (x0 x1 x2 x3 x4 y0 y1 y2 y3 y4 : Value), (Instr.buildSlice 146 5 #[(0, .agg #[x0, y0]), (1, .agg #[x1, y1]), (2, .agg #[x2, y2]), (3, .agg #[x3, y3]), (4, .agg #[x4, y4])]).run Try.prog W = .ok (.slice (some ⟨W.heap.size, 0, none⟩) 5 5) (W.alloc (.cells #[x0, y0, x1, y1, x2, y2, x3, y3, x4, y4] 150)) := fun _ _ _ _ _ _ _ _ _ _ _ => by kernel_rfl
 have hX : Ext w (w.alloc (.cells turnTab 150)) := (Below.refl _ w).alloc (Nat.le_refl _) _
 have hN := heap_alloc_new w (.cells turnTab 150)
 unfold turnTab at *
 go_enter Try.func98, Try.ntmps98
 go_wp2
 go_ret
 exact ⟨rfl, hN, hX⟩
def fT (j : Nat) : FuncId := if j = 0 then 100 else if j = 1 then 101 else if j = 2 then 102 else if j = 3 then 103 else 104
theorem five_cases {j : Nat} (h : j < 5) : j = 0 ∨ j = 1 ∨ j = 2 ∨ j = 3 ∨ j = 4 := by omega
theorem tab_at {w : World} {g j : Nat} {T : TypeId} (h : w.heap[g]? = some (.cells turnTab T (0, 0))) (hj : j < 5) : w.cell? ⟨g, j * 2, none⟩ = some (.int .i64 (j : Int)) ∧ w.cell? ⟨g, j * 2 + 1, none⟩ = some (.func (.func (fT j)) #[] #[]) := by
 unfold turnTab at h
 rcases five_cases hj with rfl | rfl | rfl | rfl | rfl <;> (constructor <;> simp [World.cell?, h, fT])
theorem call_all {j : Nat} (hj : j < 5) : ∀ (args : Array Value) (w : World), (callFunc (fT j) args).run Try.prog w = .ok (.enter (fT j) args) w := by
 rcases five_cases hj with rfl | rfl | rfl | rfl | rfl
 ·exact Try.call100
 ·exact Try.call101
 ·exact Try.call102
 ·exact Try.call103
 ·exact Try.call104
theorem turn_all {j : Nat} (hj : j < 5) (old : Int) (k ce a b : Int) (D : Option Addr) (m cd : Nat) (B : Option Addr) (q2 cb : Nat) (w : World) :
  Calls Try.prog (fT j) #[.int .u64 old, .agg #[.int .i64 k, .int .i64 ce, .int .u64 a, .int .u64 b, .slice D m cd, .slice B q2 cb]] w fun e w' => e = .returned (.tuple #[.int .u64 (turnN (j : Int) old a), .int .u64 (turnX (j : Int) old a b)]) ∧ Ext w w' := by
 rcases five_cases hj with rfl | rfl | rfl | rfl | rfl
 ·exact turn1_any old k ce a b D m cd B q2 cb w
 ·exact turn2_any old k ce a b D m cd B q2 cb w
 ·exact turn3_any old k ce a b D m cd B q2 cb w
 ·exact turn4_any old k ce a b D m cd B q2 cb w
 ·exact turn5_any old k ce a b D m cd B q2 cb w
theorem turnX_rng {kind old a b : Int} (h0 : 0 ≤ old ∧ old < 18446744073709551616) (h1 : 0 ≤ a ∧ a < 18446744073709551616) (h2 : 0 ≤ b ∧ b < 18446744073709551616) : 0 ≤ turnX kind old a b ∧ turnX kind old a b < 18446744073709551616 := by
 unfold turnX
 repeat' split
 all_goals omega
end Go.Proofs.Ytennnhfaghdeoaa
