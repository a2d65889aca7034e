import Derived.Test.YtkdjmfaodojmfaaPoolAlonePartF
import Derived.Test.YtkdjmfaodojmfaaPoolAlonePartA
import Derived.Test.YtkdjmfaodojmfaaPoolAlonePartC
import Derived.Maps.AppendAt
import Derived.Test.YtkdjmfaodojmfaaPoolAlonePartE
import Derived.Test.YtkdjmfaodojmfaaRows
import Derived.WalkKit
import Derived.ProofKit
import Derived.OpenShut
import Derived.Carry
import Derived.Below
import Derived.Lib.SmallJoins
import Derived.ChangeSlices
import Derived.Test.YtkdjmfaodojmfaaPoolAlonePartB
import Derived.SizedLaws
import Derived.Lib.SlBytesConst
import Derived.Lib.Hide
namespace Go.Proofs.Ytkdjmfaodojmfaa
open Go.RowKit

/-! Are two accesses the same? And two answers? -/
theorem two_boxes (w : World) (o0 o1 : Obj) :
  Ext w ((w.alloc o0).alloc o1) ∧ ((w.alloc o0).alloc o1).heap.size = w.heap.size + 2 ∧ ((w.alloc o0).alloc o1).heap[w.heap.size]? = some o0 ∧ ((w.alloc o0).alloc o1).heap[w.heap.size + 1]? = some o1 := by
 refine ⟨(((Below.refl _ w).alloc (Nat.le_refl _) _).alloc (by simp) _), by simp, ?_, ?_⟩
 ·rw [Below.heap_alloc _ _ _ (by first | (simp; omega) | simp)]
  simpa using heap_alloc_new w o0
 ·simpa using heap_alloc_new (w.alloc o0) o1
/-- its bytes and words may be read -/
structure AccOK (w : World) (x : Acc) : Prop where
 data : ∃ d, BytesV w x.D x.dk x.dc d
 word : ∃ ws, WordsV w x.W x.wk x.wc ws
theorem AccOK.ext {w w' : World} {x : Acc} (h : AccOK w x) (hx : Ext w w') : AccOK w' x := ⟨let ⟨d, hd⟩ := h.data; ⟨d, hd.ext hx⟩, let ⟨d, hd⟩ := h.word; ⟨d, hd.ext hx⟩⟩
theorem AccOK.zero (w : World) : AccOK w Acc.zero := ⟨⟨[], rfl, Nat.le_refl _, Nat.zero_le _, fun _ => rfl, Cells.nil _ _⟩, ⟨[], words_nil w⟩⟩
set_option maxRecDepth 100000 in
set_option maxHeartbeats 4000000 in
theorem asks_yes (x : Acc) (w : World) (hx : AccOK w x) (hn : x.wk ≤ 65536) :
  Calls Try.prog 19 #[.agg x.cells, .agg x.cells] w fun e w' => e = .returned (.bool true) ∧ Ext w w' := by
 obtain ⟨x0, x1, x2, x3, D, dk, dc, A, n, c⟩ := x
 obtain ⟨⟨d, hD⟩, ⟨ws, hA⟩⟩ := hx
 simp only [Acc.cells] at hn ⊢
 simp only at hD hA
 go_enter Try.func19, Try.ntmps19
 go_upto_region 1 with (fail)
 obtain ⟨hW, hsz, hE, hO⟩ := two_boxes w (.cells #[.int .i64 x0, .int .i64 x1, .int .u64 x2, .int .u64 x3, .slice D dk dc, .slice A n c] 33) (.cells #[.int .i64 x0, .int .i64 x1, .int .u64 x2, .int .u64 x3, .slice D dk dc, .slice A n c] 33)
 generalize (w.alloc (.cells #[.int .i64 x0, .int .i64 x1, .int .u64 x2, .int .u64 x3, .slice D dk dc, .slice A n c] 33)).alloc (.cells #[.int .i64 x0, .int .i64 x1, .int .u64 x2, .int .u64 x3, .slice D dk dc, .slice A n c] 33) = W at *
 have e0 : W.cell? ⟨w.heap.size, 0, none⟩ = some (.int .i64 x0) := by simp [World.cell?, hE]
 have e1 : W.cell? ⟨w.heap.size, 1, none⟩ = some (.int .i64 x1) := by simp [World.cell?, hE]
 have e2 : W.cell? ⟨w.heap.size, 2, none⟩ = some (.int .u64 x2) := by simp [World.cell?, hE]
 have e3 : W.cell? ⟨w.heap.size, 3, none⟩ = some (.int .u64 x3) := by simp [World.cell?, hE]
 have e4 : W.cell? ⟨w.heap.size, 4, none⟩ = some (.slice D dk dc) := by simp [World.cell?, hE]
 have e5 : W.cell? ⟨w.heap.size, 5, none⟩ = some (.slice A n c) := by simp [World.cell?, hE]
 have o0 : W.cell? ⟨w.heap.size + 1, 0, none⟩ = some (.int .i64 x0) := by simp [World.cell?, hO]
 have o1 : W.cell? ⟨w.heap.size + 1, 1, none⟩ = some (.int .i64 x1) := by simp [World.cell?, hO]
 have o2 : W.cell? ⟨w.heap.size + 1, 2, none⟩ = some (.int .u64 x2) := by simp [World.cell?, hO]
 have o3 : W.cell? ⟨w.heap.size + 1, 3, none⟩ = some (.int .u64 x3) := by simp [World.cell?, hO]
 have o4 : W.cell? ⟨w.heap.size + 1, 4, none⟩ = some (.slice D dk dc) := by simp [World.cell?, hO]
 have o5 : W.cell? ⟨w.heap.size + 1, 5, none⟩ = some (.slice A n c) := by simp [World.cell?, hO]
 have q1 := run_convert_bytesV (P := Try.prog) (hD.ext hW) Try.underlying30 Try.underlying5 Try.underlying9
 clear hE hO
 go_wp2
 go_loopw [5] (fun i wr => ∃ j : Nat, j ≤ n ∧ i = .int .i64 j ∧ Ext W wr) (fun i _ => n - (intOf i).toNat)
 case atStart => exact ⟨0, Nat.zero_le _, rfl, Ext.refl _⟩
 case round =>
  obtain ⟨j, hj, rfl, hxr⟩ := hrel
  rcases Nat.lt_or_ge j n with hjn | hjn
  ·obtain ⟨a, rfl, ha, -⟩ := hA.at hjn
   generalize ws.getD j 0 = z at ha
   have hX : ∀ wx, Ext wr wx → wx.cell? ⟨w.heap.size, 5, none⟩ = some (.slice (some a) n c) ∧ wx.cell? ⟨w.heap.size + 1, 5, none⟩ = some (.slice (some a) n c) ∧ wx.cell? (a.add j) = some (.int .u64 z) := fun wx h =>
    ⟨(hxr.trans h).cell e5, (hxr.trans h).cell o5, ((hW.trans hxr).trans h).cell ha⟩
   have c5 := hxr.cell e5
   go_wp2_with fail
   refine' wp_region_sure_all ⟨((some 57, [], none) :: (some 58, [0], none) :: (some 59, [], none) :: (some 60, [1, 2], none) :: (some 61, [3], none) :: (some 62, [], none) :: (some 63, [5], none) :: (some 64, [], none) :: (some 65, [6, 7], none) :: (some 66, [8], none) :: (some 67, [4, 9], none) :: []), (0 :: 1 :: 0 :: 7 :: 15 :: 0 :: 32 :: 0 :: 224 :: 480 :: 1023 :: []), (true :: true :: true :: true :: true :: true :: true :: true :: true :: true :: true :: []), [], 0⟩ 11 68 ((0, 57) :: (1, 58) :: (2, 59) :: (3, 60) :: (4, 61) :: (5, 62) :: (6, 63) :: (7, 64) :: (8, 65) :: (9, 66) :: (10, 67) :: []) ((0, 57) :: (1, 58) :: (2, 59) :: (3, 60) :: (4, 61) :: (5, 62) :: (6, 63) :: (7, 64) :: (8, 65) :: (9, 66) :: (10, 67) :: []) (.det _ :: .det _ :: .det _ :: .det _ :: .det _ :: .det _ :: .det _ :: .det _ :: .det _ :: .det _ :: .det _ :: []) (by kernel_rfl) (by kernel_rfl) (by kernel_rfl) rfl (by kernel_rfl) (by kernel_rfl) rfl (by kernel_rfl) ?hone ?hend
   case hone =>
    intro CS frS VS hCS ha hV
    have qs2 := slot_val (t := 2) ha rfl
    simp only [List.getElem_toArray, List.getElem_cons_succ, List.getElem_cons_zero] at qs2
    have qs3 := slot_val (t := 3) ha rfl
    simp only [List.getElem_toArray, List.getElem_cons_succ, List.getElem_cons_zero] at qs3
    have qs5 := slot_val (t := 5) ha rfl
    simp only [List.getElem_toArray, List.getElem_cons_succ, List.getElem_cons_zero] at qs5
    have HCS := Lib.hid hCS
    have HVS := Lib.hid hV
    clear ha hCS hV
    refine sure_det (js := []) (ts := [2]) (gd := none) (place_at HVS.out (k := 0) rfl) (by rw [HCS.out]; kernel_rfl) ?_ ?_
    ·intro wx hx ρ hρ hs hf; have hρc := hρ.const; have hρf := hρ.func
     obtain ⟨fx2, -⟩ := hf; rw [qs2] at fx2
     clear hs
     clear HCS HVS qs2 qs3 qs5
     refine run_plain ?_
     unfold runs
     go_simp
     exact detK.mk
    refine sure_det (js := [(0, 57)]) (ts := []) (gd := none) (place_at HVS.out (k := 1) rfl) (by rw [HCS.out]; kernel_rfl) ?_ ?_
    ·intro wx hx ρ hρ hs hf; have hρc := hρ.const; have hρf := hρ.func; obtain ⟨sn0, -⟩ := hs; rw [place_at HVS.out (k := 0) rfl] at sn0; replace sn0 : ρ (.tmp 57) = _ := sn0
     clear hf
     clear HCS HVS qs2 qs3 qs5
     refine run_plain ?_
     obtain ⟨p0, p1, p2⟩ := hX wx hx.drawn
     unfold runs
     go_simp
     exact detK.mk
    refine sure_det (js := []) (ts := [5]) (gd := none) (place_at HVS.out (k := 2) rfl) (by rw [HCS.out]; kernel_rfl) ?_ ?_
    ·intro wx hx ρ hρ hs hf; have hρc := hρ.const; have hρf := hρ.func
     obtain ⟨fx5, -⟩ := hf; rw [qs5] at fx5
     clear hs
     clear HCS HVS qs2 qs3 qs5
     refine run_plain ?_
     refine op_move rfl fx5 ?_
     exact detK.mk
    refine sure_det (js := [(1, 58), (2, 59)]) (ts := []) (gd := none) (place_at HVS.out (k := 3) rfl) (by rw [HCS.out]; kernel_rfl) ?_ ?_
    ·intro wx hx ρ hρ hs hf; have hρc := hρ.const; have hρf := hρ.func; obtain ⟨sn1, sn2, -⟩ := hs; rw [place_at HVS.out (k := 1) rfl] at sn1; replace sn1 : ρ (.tmp 58) = _ := sn1; rw [place_at HVS.out (k := 2) rfl] at sn2; replace sn2 : ρ (.tmp 59) = _ := sn2
     clear hf
     clear HCS HVS qs2 qs3 qs5
     refine run_plain ?_
     unfold runs
     go_simp
     exact detK.mk
    refine sure_det (js := [(3, 60)]) (ts := []) (gd := none) (place_at HVS.out (k := 4) rfl) (by rw [HCS.out]; kernel_rfl) ?_ ?_
    ·intro wx hx ρ hρ hs hf; have hρc := hρ.const; have hρf := hρ.func; obtain ⟨sn3, -⟩ := hs; rw [place_at HVS.out (k := 3) rfl] at sn3; replace sn3 : ρ (.tmp 60) = _ := sn3
     clear hf
     clear HCS HVS qs2 qs3 qs5
     refine run_plain ?_
     obtain ⟨p0, p1, p2⟩ := hX wx hx.drawn
     unfold runs
     go_simp
     exact detK.mk
    refine sure_det (js := []) (ts := [3]) (gd := none) (place_at HVS.out (k := 5) rfl) (by rw [HCS.out]; kernel_rfl) ?_ ?_
    ·intro wx hx ρ hρ hs hf; have hρc := hρ.const; have hρf := hρ.func
     obtain ⟨fx3, -⟩ := hf; rw [qs3] at fx3
     clear hs
     clear HCS HVS qs2 qs3 qs5
     refine run_plain ?_
     unfold runs
     go_simp
     exact detK.mk
    refine sure_det (js := [(5, 62)]) (ts := []) (gd := none) (place_at HVS.out (k := 6) rfl) (by rw [HCS.out]; kernel_rfl) ?_ ?_
    ·intro wx hx ρ hρ hs hf; have hρc := hρ.const; have hρf := hρ.func; obtain ⟨sn5, -⟩ := hs; rw [place_at HVS.out (k := 5) rfl] at sn5; replace sn5 : ρ (.tmp 62) = _ := sn5
     clear hf
     clear HCS HVS qs2 qs3 qs5
     refine run_plain ?_
     obtain ⟨p0, p1, p2⟩ := hX wx hx.drawn
     unfold runs
     go_simp
     exact detK.mk
    refine sure_det (js := []) (ts := [5]) (gd := none) (place_at HVS.out (k := 7) rfl) (by rw [HCS.out]; kernel_rfl) ?_ ?_
    ·intro wx hx ρ hρ hs hf; have hρc := hρ.const; have hρf := hρ.func
     obtain ⟨fx5, -⟩ := hf; rw [qs5] at fx5
     clear hs
     clear HCS HVS qs2 qs3 qs5
     refine run_plain ?_
     refine op_move rfl fx5 ?_
     exact detK.mk
    refine sure_det (js := [(6, 63), (7, 64)]) (ts := []) (gd := none) (place_at HVS.out (k := 8) rfl) (by rw [HCS.out]; kernel_rfl) ?_ ?_
    ·intro wx hx ρ hρ hs hf; have hρc := hρ.const; have hρf := hρ.func; obtain ⟨sn6, sn7, -⟩ := hs; rw [place_at HVS.out (k := 6) rfl] at sn6; replace sn6 : ρ (.tmp 63) = _ := sn6; rw [place_at HVS.out (k := 7) rfl] at sn7; replace sn7 : ρ (.tmp 64) = _ := sn7
     clear hf
     clear HCS HVS qs2 qs3 qs5
     refine run_plain ?_
     unfold runs
     go_simp
     exact detK.mk
    refine sure_det (js := [(8, 65)]) (ts := []) (gd := none) (place_at HVS.out (k := 9) rfl) (by rw [HCS.out]; kernel_rfl) ?_ ?_
    ·intro wx hx ρ hρ hs hf; have hρc := hρ.const; have hρf := hρ.func; obtain ⟨sn8, -⟩ := hs; rw [place_at HVS.out (k := 8) rfl] at sn8; replace sn8 : ρ (.tmp 65) = _ := sn8
     clear hf
     clear HCS HVS qs2 qs3 qs5
     refine run_plain ?_
     obtain ⟨p0, p1, p2⟩ := hX wx hx.drawn
     unfold runs
     go_simp
     exact detK.mk
    refine sure_det (js := [(4, 61), (9, 66)]) (ts := []) (gd := none) (place_at HVS.out (k := 10) rfl) (by rw [HCS.out]; kernel_rfl) ?_ ?_
    ·intro wx hx ρ hρ hs hf; have hρc := hρ.const; have hρf := hρ.func; obtain ⟨sn4, sn9, -⟩ := hs; rw [place_at HVS.out (k := 4) rfl] at sn4; replace sn4 : ρ (.tmp 61) = _ := sn4; rw [place_at HVS.out (k := 9) rfl] at sn9; replace sn9 : ρ (.tmp 66) = _ := sn9
     clear hf
     clear HCS HVS qs2 qs3 qs5
     refine run_plain ?_
     unfold runs
     go_simp
     exact detK.mk
    exact trivial
   case hend =>
    intro xs wx hx hg
    have gk0 : xs 0 = _ := goods_get hg (i := 0) (j := 0) (d := 57) rfl
    have gk1 : xs 1 = _ := goods_get hg (i := 1) (j := 1) (d := 58) rfl
    have gk2 : xs 2 = _ := goods_get hg (i := 2) (j := 2) (d := 59) rfl
    have gk3 : xs 3 = _ := goods_get hg (i := 3) (j := 3) (d := 60) rfl
    have gk4 : xs 4 = _ := goods_get hg (i := 4) (j := 4) (d := 61) rfl
    have gk5 : xs 5 = _ := goods_get hg (i := 5) (j := 5) (d := 62) rfl
    have gk6 : xs 6 = _ := goods_get hg (i := 6) (j := 6) (d := 63) rfl
    have gk7 : xs 7 = _ := goods_get hg (i := 7) (j := 7) (d := 64) rfl
    have gk8 : xs 8 = _ := goods_get hg (i := 8) (j := 8) (d := 65) rfl
    have gk9 : xs 9 = _ := goods_get hg (i := 9) (j := 9) (d := 66) rfl
    have gk10 : xs 10 = _ := goods_get hg (i := 10) (j := 10) (d := 67) rfl
    clear hg
    simp only [putAll, gk0, gk1, gk2, gk3, gk4, gk5, gk6, gk7, gk8, gk9, gk10]
    clear gk0 gk1 gk2 gk3 gk4 gk5 gk6 gk7 gk8 gk9 gk10
    clear xs
    simp only [Act.put, List.setIfInBounds_toArray, List.set_cons_zero, List.set_cons_succ]
    go_wp2
    go_roundw
    case rel => exact ⟨j + 1, by omega, by go_num, hxr.trans hx.drawn⟩
    case measure => simp [intOf]; omega
  ·have c5 := hxr.cell e5
   go_wp2
   go_ret
   exact ⟨rfl, hW.trans hxr⟩
set_option maxRecDepth 100000 in
set_option maxHeartbeats 4000000 in
theorem outs_yes (o : OutN) (w : World) :
  Calls Try.prog 20 #[.agg o.cells, .agg o.cells] w fun e w' => e = .returned (.bool true) ∧ Ext w w' := by
 obtain ⟨x0, x1, x2, x3⟩ := o
 simp only [OutN.cells]
 go_enter Try.func20, Try.ntmps20
 go_upto_region 1 with (fail)
 obtain ⟨hW, hsz, hE, hO⟩ := two_boxes w (.cells #[.int .i64 x0, .bool x1, .int .i64 x2, .int .u64 x3, .slice none 0 0] 37) (.cells #[.int .i64 x0, .bool x1, .int .i64 x2, .int .u64 x3, .slice none 0 0] 37)
 generalize (w.alloc (.cells #[.int .i64 x0, .bool x1, .int .i64 x2, .int .u64 x3, .slice none 0 0] 37)).alloc (.cells #[.int .i64 x0, .bool x1, .int .i64 x2, .int .u64 x3, .slice none 0 0] 37) = W at *
 have e0 : W.cell? ⟨w.heap.size, 0, none⟩ = some (.int .i64 x0) := by simp [World.cell?, hE]
 have e1 : W.cell? ⟨w.heap.size, 1, none⟩ = some (.bool x1) := by simp [World.cell?, hE]
 have e2 : W.cell? ⟨w.heap.size, 2, none⟩ = some (.int .i64 x2) := by simp [World.cell?, hE]
 have e3 : W.cell? ⟨w.heap.size, 3, none⟩ = some (.int .u64 x3) := by simp [World.cell?, hE]
 have e4 : W.cell? ⟨w.heap.size, 4, none⟩ = some (.slice none 0 0) := by simp [World.cell?, hE]
 have o0 : W.cell? ⟨w.heap.size + 1, 0, none⟩ = some (.int .i64 x0) := by simp [World.cell?, hO]
 have o1 : W.cell? ⟨w.heap.size + 1, 1, none⟩ = some (.bool x1) := by simp [World.cell?, hO]
 have o2 : W.cell? ⟨w.heap.size + 1, 2, none⟩ = some (.int .i64 x2) := by simp [World.cell?, hO]
 have o3 : W.cell? ⟨w.heap.size + 1, 3, none⟩ = some (.int .u64 x3) := by simp [World.cell?, hO]
 have o4 : W.cell? ⟨w.heap.size + 1, 4, none⟩ = some (.slice none 0 0) := by simp [World.cell?, hO]
 clear hE hO
 go_wp2
 go_loopw [5] (fun i wr => i = .int .i64 0 ∧ wr = W) (fun i _ => 0)
 case atStart => exact ⟨rfl, rfl⟩
 case round =>
  obtain ⟨rfl, rfl⟩ := hrel
  go_wp2
  go_ret
  exact ⟨rfl, hW⟩
/-- are accesses few, of few bytes and words? -/
def fewL (l : List Acc) (m : Nat) : Prop := l.length ≤ m ∧ ∀ (j : Nat) (x : Acc), l[j]? = some x → x.dk ≤ 100 ∧ x.wk ≤ 100
def FewE (l : List Acc) (m : Nat) (e : Ending) : Prop := ∃ b : Bool, e = .returned (.bool b) ∧ (b = true → fewL l m)
set_option maxRecDepth 100000 in
set_option maxHeartbeats 4000000 in
theorem few_any (A : Option Addr) (n c m : Nat) (l : List Acc) (w : World) (hl : AccsV w A n c l) (hn : n ≤ 9223372036854775807) (hm : m ≤ 65536) (hsz : ∀ (j : Nat) (x : Acc), l[j]? = some x → x.dk ≤ 9223372036854775807 ∧ x.wk ≤ 9223372036854775807) :
  Calls Try.prog 53 #[.slice A n c, .int .i64 m] w fun e w' => FewE l m e ∧ Ext w w' := by
 have hlen : l.length = n := hl.len
 rcases Nat.lt_or_ge m n with hmn | hmn
 ·go_enter Try.func53, Try.ntmps53
  go_wp2
  go_ret
  exact ⟨⟨false, rfl, fun h => by cases h⟩, Ext.refl _⟩
 ·go_enter Try.func53, Try.ntmps53
  go_wp2
  go_loopw [5] (fun i wr => ∃ j : Nat, j ≤ n ∧ i = .int .i64 j ∧ (∀ (k : Nat) (x : Acc), k < j → l[k]? = some x → x.dk ≤ 100 ∧ x.wk ≤ 100) ∧ wr = w) (fun i _ => n - (intOf i).toNat)
  case atStart => exact ⟨0, Nat.zero_le _, rfl, fun k x hk => absurd hk (Nat.not_lt_zero _), rfl⟩
  case round =>
   obtain ⟨j, hj, rfl, hall, rfl⟩ := hrel
   rcases Nat.lt_or_ge j n with hjn | hjn
   ·obtain ⟨a, rfl, hxa⟩ := hl.at_ j (l[j]'(by rw [hl.len]; exact hjn)) (List.getElem?_eq_getElem _)
    have hlx : l[j]? = some (l[j]'(by rw [hl.len]; exact hjn)) := List.getElem?_eq_getElem _
    have hbd := hsz j _ hlx
    generalize (l[j]'(by rw [hl.len]; exact hjn)) = x at *
    obtain ⟨x0, x1, x2, x3, x4, x5, x6, x7, x8, x9⟩ := x
    have y4 := hxa 4 (.slice x4 x5 x6) rfl
    rw [show ((a.add (j * 6)).add 4) = ⟨(a.add (j * 6)).block, (a.add (j * 6)).off + 4, none⟩ from rfl] at y4
    have y5 := hxa 5 (.slice x7 x8 x9) rfl
    rw [show ((a.add (j * 6)).add 5) = ⟨(a.add (j * 6)).block, (a.add (j * 6)).off + 5, none⟩ from rfl] at y5
    simp only at hbd
    have hw5 : IntKind.i64.wrap (x5 : Int) = (x5 : Int) := by rw [IntKind.wrap_i64]; omega
    have hw8 : IntKind.i64.wrap (x8 : Int) = (x8 : Int) := by rw [IntKind.wrap_i64]; omega
    by_cases h5 : x5 ≤ 100
    ·by_cases h8 : x8 ≤ 100
     ·have h5' : ¬ (100 : Int) < (x5 : Int) := by omega
      have h8' : ¬ (100 : Int) < (x8 : Int) := by omega
      go_wp2
      go_roundw
      case rel =>
       refine ⟨j + 1, by omega, by go_num, fun k x hk hx => ?_, by trivial⟩
       rcases Nat.lt_or_ge k j with h | h
       ·exact hall k x h hx
       ·obtain rfl : k = j := by omega
        rw [hlx] at hx
        cases hx
        exact ⟨h5, h8⟩
      case measure => simp [intOf]; omega
     ·have h5' : ¬ (100 : Int) < (x5 : Int) := by omega
      have h8' : (100 : Int) < (x8 : Int) := by omega
      go_wp2
      go_ret
      exact ⟨⟨false, rfl, fun h => by cases h⟩, Ext.refl _⟩
    ·have h5' : (100 : Int) < (x5 : Int) := by omega
     go_wp2
     go_ret
     exact ⟨⟨false, rfl, fun h => by cases h⟩, Ext.refl _⟩
   ·go_wp2
    go_ret
    exact ⟨⟨true, rfl, fun _ => ⟨by omega, fun k x hx => hall k x (by have := (List.getElem?_eq_some_iff.1 hx).1; omega) hx⟩⟩, Ext.refl _⟩
end Go.Proofs.Ytkdjmfaodojmfaa

namespace Go.Proofs.Ytkdjmfaodojmfaa
open Go.RowKit

/-! The example of chapter 11. -/
theorem flat_at {α : Type} (f : α → List Value) (m : Nat) (hf : ∀ x, (f x).length = m) : ∀ (l : List α) (j : Nat) (x : α), l[j]? = some x → ∀ k, k < m → (l.flatMap f)[j * m + k]? = (f x)[k]?
  | [], j, x, h, k, hk => by simp at h
  | y :: l, 0, x, h, k, hk => by
    obtain rfl : y = x := by simpa using h
    rw [List.flatMap_cons, List.getElem?_append_left (by rw [hf]; omega)]
    simp
  | y :: l, j + 1, x, h, k, hk => by
    rw [List.flatMap_cons, List.getElem?_append_right (by rw [hf, Nat.succ_mul]; omega), hf]
    rw [show (j + 1) * m + k - m = j * m + k by rw [Nat.succ_mul]; omega]
    exact flat_at f m hf l j x (by simpa using h) k hk
theorem add_at (g i : Nat) : (⟨g, 0, none⟩ : Addr).add i = ⟨g, i, none⟩ := by unfold Addr.add; split <;> simp_all
theorem AccsV.of_heap {w : World} {g c : Nat} {T : TypeId} {fr : Nat × Nat} {l : List Acc} {cs : Array Value} (h : w.heap[g]? = some (.cells cs T fr)) (hc : cs = (l.flatMap fun x => x.cells.toList).toArray) : AccsV w (some ⟨g, 0, none⟩) l.length c l := by
  subst hc
  refine ⟨rfl, fun j x hj => ⟨_, rfl, fun k v hk => ?_⟩⟩
  have hk6 : k < 6 := (Array.getElem?_eq_some_iff.1 hk).1
  rw [add_add3, add_at]
  have := flat_at (fun x : Acc => x.cells.toList) 6 (fun _ => rfl) l j x hj k hk6
  simp only [World.cell?, h, Option.isSome_none, Bool.false_eq_true, if_false]
  simp only [List.getElem?_toArray]
  rw [this]
  simpa using hk
def Res.cells (r : Res) : List Value := [.int .u64 r.n, .slice r.A r.k r.c, .bool r.fail]
theorem LogV.of_heap {w : World} {g c : Nat} {T : TypeId} {fr : Nat × Nat} {l : List Res} {cs : Array Value} (hs : l.length ≤ 65536) (h : w.heap[g]? = some (.cells cs T fr)) (hc : cs = (l.flatMap Res.cells).toArray) : LogV w (some ⟨g, 0, none⟩) l.length c l := by
  subst hc
  have key : ∀ (j : Nat) (r : Res), l[j]? = some r → ∀ k, k < 3 → w.cell? ⟨g, j * 3 + k, none⟩ = (Res.cells r)[k]? := fun j r hj k hk => by
    have := flat_at Res.cells 3 (fun _ => rfl) l j r hj k hk
    simp only [World.cell?, h, Option.isSome_none, Bool.false_eq_true, if_false]
    simp only [List.getElem?_toArray]
    rw [this]
  refine ⟨rfl, hs, fun j r hj => ⟨_, rfl, ?_, ?_, ?_⟩⟩
  · rw [add_at]; exact key j r hj 0 (by omega)
  · rw [add_add3, add_at]; exact key j r hj 1 (by omega)
  · rw [add_add3, add_at]; exact key j r hj 2 (by omega)
theorem log_nil (w : World) : LogV w none 0 0 [] := ⟨rfl, Nat.zero_le _, fun j r h => by simp at h⟩
set_option maxRecDepth 100000 in
set_option maxHeartbeats 4000000 in
theorem shown11_any (w : World) : Calls Try.prog 52 #[] w fun e w' => e = .returned (.bool true) ∧ Ext w w' := by
  have hm1 : ∀ W : World, (Instr.build 33 #[(0, .int .i64 0), (1, .int .i64 4)]).run Try.prog W = .ok (.agg #[.int .i64 0, .int .i64 4, .int .u64 0, .int .u64 0, .slice none 0 0, .slice none 0 0]) W := fun _ => by kernel_rfl
  have hm2 : ∀ W : World, (Instr.build 33 #[(0, .int .i64 0), (1, .int .i64 5)]).run Try.prog W = .ok (.agg #[.int .i64 0, .int .i64 5, .int .u64 0, .int .u64 0, .slice none 0 0, .slice none 0 0]) W := fun _ => by kernel_rfl
  have hmr : ∀ (n : Int) (W : World), (Instr.build 130 #[(0, .int .u64 n)]).run Try.prog W = .ok (.agg #[.int .u64 n, .slice none 0 0, .bool false]) W := fun _ _ => by kernel_rfl
  have hs2 : ∀ (W : World) (a b c d e f a' b' c' d' e' f' : Value), (Instr.buildSlice 79 2 #[(0, .agg #[a, b, c, d, e, f]), (1, .agg #[a', b', c', d', e', f'])]).run Try.prog W = .ok (.slice (some ⟨W.heap.size, 0, none⟩) 2 2) (W.alloc (.cells #[a, b, c, d, e, f, a', b', c', d', e', f'] 33)) := fun _ _ _ _ _ _ _ _ _ _ _ _ _ => by kernel_rfl
  have hr1 : ∀ (W : World) (a b c : Value), (Instr.buildSlice 25 1 #[(0, .agg #[a, b, c])]).run Try.prog W = .ok (.slice (some ⟨W.heap.size, 0, none⟩) 1 1) (W.alloc (.cells #[a, b, c] 130)) := fun _ _ _ _ => by kernel_rfl
  have hr3 : ∀ (W : World) (a b c a' b' c' a2 b2 c2 : Value), (Instr.buildSlice 25 3 #[(0, .agg #[a, b, c]), (1, .agg #[a', b', c']), (2, .agg #[a2, b2, c2])]).run Try.prog W = .ok (.slice (some ⟨W.heap.size, 0, none⟩) 3 3) (W.alloc (.cells #[a, b, c, a', b', c', a2, b2, c2] 130)) := fun _ _ _ _ _ _ _ _ _ _ => by kernel_rfl
  go_enter Try.func52, Try.ntmps52
  go_upto_region 2 with (fail)
  have hW : Ext w (w.alloc (.cells #[.int .i64 0, .int .i64 4, .int .u64 0, .int .u64 0, .slice none 0 0, .slice none 0 0, .int .i64 0, .int .i64 5, .int .u64 0, .int .u64 0, .slice none 0 0, .slice none 0 0] 33)) := (Below.refl _ w).alloc (Nat.le_refl _) _
  have hg : (w.alloc (.cells #[.int .i64 0, .int .i64 4, .int .u64 0, .int .u64 0, .slice none 0 0, .slice none 0 0, .int .i64 0, .int .i64 5, .int .u64 0, .int .u64 0, .slice none 0 0, .slice none 0 0] 33)).heap[w.heap.size]? = some (.cells #[.int .i64 0, .int .i64 4, .int .u64 0, .int .u64 0, .slice none 0 0, .slice none 0 0, .int .i64 0, .int .i64 5, .int .u64 0, .int .u64 0, .slice none 0 0, .slice none 0 0] 33 (0, 0)) := heap_alloc_new w _
  generalize w.alloc (.cells #[.int .i64 0, .int .i64 4, .int .u64 0, .int .u64 0, .slice none 0 0, .slice none 0 0, .int .i64 0, .int .i64 5, .int .u64 0, .int .u64 0, .slice none 0 0, .slice none 0 0] 33) = W at *
  generalize w.heap.size = g at *
  have hacc : AccsV W (some ⟨g, 0, none⟩) 2 2 [⟨0, 4, 0, 0, none, 0, 0, none, 0, 0⟩, ⟨0, 5, 0, 0, none, 0, 0, none, 0, 0⟩] := AccsV.of_heap (l := [⟨0, 4, 0, 0, none, 0, 0, none, 0, 0⟩, ⟨0, 5, 0, 0, none, 0, 0, none, 0, 0⟩]) hg rfl
  clear hg
  generalize hL : ([⟨0, 4, 0, 0, none, 0, 0, none, 0, 0⟩, ⟨0, 5, 0, 0, none, 0, 0, none, 0, 0⟩] : List Acc) = L at hacc
  -- the first one
  go_wp2_with fail
  refine (line_any (some ⟨g, 0, none⟩) 2 2 L none 0 0 [] _ hacc (by omega) (log_nil _)).mono ?_
  rintro e w1 ⟨rfl, hx1⟩
  rw [show lineEnd L [] = .returned (.tuple #[.agg #[.int .i64 0, .int .i64 4, .int .u64 0, .int .u64 0, .slice none 0 0, .slice none 0 0], .agg outZero, .bool false]) by subst hL; rfl]
  simp only [outZero]
  go_upto_region 3 with (fail)
  obtain ⟨hx2, -, ha2, -⟩ := two_boxes w1 (.cells #[.int .i64 0, .int .i64 4, .int .u64 0, .int .u64 0, .slice none 0 0, .slice none 0 0] 33) (.cells #[.int .i64 0, .bool false, .int .i64 0, .int .u64 0, .slice none 0 0] 37)
  generalize (w1.alloc (.cells #[.int .i64 0, .int .i64 4, .int .u64 0, .int .u64 0, .slice none 0 0, .slice none 0 0] 33)).alloc (.cells #[.int .i64 0, .bool false, .int .i64 0, .int .u64 0, .slice none 0 0] 37) = W2 at *
  generalize w1.heap.size = g1 at *
  replace hacc := hacc.ext (hx1.trans hx2)
  replace hW := hW.trans (hx1.trans hx2)
  clear hx1 hx2
  -- the second one
  go_wp2_with fail
  have hlg : LogV (W2.alloc (.cells #[.int .u64 7, .slice none 0 0, .bool false] 130)) (some ⟨W2.heap.size, 0, none⟩) 1 1 [⟨7, none, 0, 0, false⟩] := LogV.of_heap (l := [⟨7, none, 0, 0, false⟩]) (by simp) (heap_alloc_new W2 _) rfl
  have hx3 : Ext W2 (W2.alloc (.cells #[.int .u64 7, .slice none 0 0, .bool false] 130)) := (Below.refl _ W2).alloc (Nat.le_refl _) _
  refine (line_any (some ⟨g, 0, none⟩) 2 2 L _ 1 1 [⟨7, none, 0, 0, false⟩] _ (hacc.ext hx3) (by omega) hlg).mono ?_
  rintro e w3 ⟨rfl, hx4⟩
  rw [show lineEnd L [⟨7, none, 0, 0, false⟩] = .returned (.tuple #[.agg #[.int .i64 0, .int .i64 5, .int .u64 0, .int .u64 0, .slice none 0 0, .slice none 0 0], .agg outZero, .bool false]) by subst hL; rfl]
  simp only [outZero]
  go_upto_region 4 with (fail)
  obtain ⟨hx5, -, ha5, -⟩ := two_boxes w3 (.cells #[.int .i64 0, .int .i64 5, .int .u64 0, .int .u64 0, .slice none 0 0, .slice none 0 0] 33) (.cells #[.int .i64 0, .bool false, .int .i64 0, .int .u64 0, .slice none 0 0] 37)
  generalize (w3.alloc (.cells #[.int .i64 0, .int .i64 5, .int .u64 0, .int .u64 0, .slice none 0 0, .slice none 0 0] 33)).alloc (.cells #[.int .i64 0, .bool false, .int .i64 0, .int .u64 0, .slice none 0 0] 37) = W5 at *
  generalize w3.heap.size = g3 at *
  replace hx5 := (hx3.trans hx4).trans hx5
  replace ha2 := heap_ext ha2 hx5
  replace hacc := hacc.ext hx5
  replace hW := hW.trans hx5
  clear hx3 hx4 hx5 hlg
  -- the third one
  go_wp2_with fail
  have hlg : LogV (W5.alloc (.cells #[.int .u64 7, .slice none 0 0, .bool false, .int .u64 8, .slice none 0 0, .bool false, .int .u64 9, .slice none 0 0, .bool false] 130)) (some ⟨W5.heap.size, 0, none⟩) 3 3 [⟨7, none, 0, 0, false⟩, ⟨8, none, 0, 0, false⟩, ⟨9, none, 0, 0, false⟩] :=
    LogV.of_heap (l := [⟨7, none, 0, 0, false⟩, ⟨8, none, 0, 0, false⟩, ⟨9, none, 0, 0, false⟩]) (by simp) (heap_alloc_new W5 _) rfl
  have hx6 : Ext W5 (W5.alloc (.cells #[.int .u64 7, .slice none 0 0, .bool false, .int .u64 8, .slice none 0 0, .bool false, .int .u64 9, .slice none 0 0, .bool false] 130)) := (Below.refl _ W5).alloc (Nat.le_refl _) _
  refine (line_any (some ⟨g, 0, none⟩) 2 2 L _ 3 3 [⟨7, none, 0, 0, false⟩, ⟨8, none, 0, 0, false⟩, ⟨9, none, 0, 0, false⟩] _ (hacc.ext hx6) (by omega) hlg).mono ?_
  rintro e w6 ⟨rfl, hx7⟩
  rw [show lineEnd L [⟨7, none, 0, 0, false⟩, ⟨8, none, 0, 0, false⟩, ⟨9, none, 0, 0, false⟩] = .returned (.tuple #[.agg accZero, .agg #[.int .i64 0, .bool false, .int .i64 2, .int .u64 15, .slice none 0 0], .bool true]) by subst hL; rfl]
  simp only [accZero]
  go_upto_region 5 with (fail)
  obtain ⟨hx8, -, -, ha8⟩ := two_boxes w6 (.cells #[.int .i64 0, .int .i64 0, .int .u64 0, .int .u64 0, .slice none 0 0, .slice none 0 0] 33) (.cells #[.int .i64 0, .bool false, .int .i64 2, .int .u64 15, .slice none 0 0] 37)
  generalize (w6.alloc (.cells #[.int .i64 0, .int .i64 0, .int .u64 0, .int .u64 0, .slice none 0 0, .slice none 0 0] 33)).alloc (.cells #[.int .i64 0, .bool false, .int .i64 2, .int .u64 15, .slice none 0 0] 37) = W8 at *
  generalize w6.heap.size = g6 at *
  replace hx8 := (hx6.trans hx7).trans hx8
  replace ha2 := heap_ext ha2 hx8
  replace ha5 := heap_ext ha5 hx8
  replace hW := hW.trans hx8
  have c1 : W8.cell? ⟨g1, 1, none⟩ = some (.int .i64 4) := by simp [World.cell?, ha2]
  have c2 : W8.cell? ⟨g3, 1, none⟩ = some (.int .i64 5) := by simp [World.cell?, ha5]
  have c3 : W8.cell? ⟨g6 + 1, 2, none⟩ = some (.int .i64 2) := by simp [World.cell?, ha8]
  have c4 : W8.cell? ⟨g6 + 1, 3, none⟩ = some (.int .u64 15) := by simp [World.cell?, ha8]
  go_wp2
  go_ret
  exact ⟨rfl, hW⟩
end Go.Proofs.Ytkdjmfaodojmfaa

namespace Go.Proofs.Ytkdjmfaodojmfaa
open Go.RowKit

/-! A region that draws its order, in which one operation that turns nothing may come behind the first store of the tail: it is taken first. -/
section
variable {P : Program} {ops : Array Oper} {Q : Exit → Act → World → Prop}
/-- an operation whose guard was passed by itself -/
theorem run_undef {ρ : Operand → Value} {o : Oper} {w : World} {K : Value → World → Prop} {d : Tmp} {b : Bool} (hb : ρ (.tmp d) = undef) (h : K undef w) : sureRun P (some (d, b)) ρ o w K := by
  simp only [sureRun, guarded, hb, undef]; exact h
def tailLB (M : List Nat) (n L : Nat) : Nat → List Row → Bool
  | _, [] => true
  | k, _ :: rs => (decide (k < n) || (M.getD k 0 ||| (if k = n then 2 ^ L else 0)) &&& (2 ^ k - 1) == 2 ^ k - 1) && tailLB M n L (k + 1) rs
def sureLB (S : List Row) (M : List Nat) (n m L : Nat) : Bool :=
  decide (n ≤ S.length) && decide (L < n) && sureB S M S.length m && tailLB M n L 0 S
def lateFree (ops : Array Oper) (M : List Nat) (L : Nat) : Bool :=
  match ops[L]? with
  | none => false
  | some oL => oL.guard.isNone && (List.range ops.size).all fun j => j == L || waits M L j || match ops[j]? with
    | some oj => oj.after.any (fun e => Region.binds .any e && e.on == L) || oL.apart ops oj
    | none => true
theorem tailL_spec {M : List Nat} {n L : Nat} : ∀ (S : List Row) (k0 : Nat), tailLB M n L k0 S = true → ∀ k, k < S.length → n ≤ k0 + k → ∀ i, i < k0 + k → waits M (k0 + k) i = true ∨ (k0 + k = n ∧ i = L)
  | [], _, _, k, h => by simp at h
  | x :: S, k0, hB, k, h => by
    simp only [tailLB, Bool.and_eq_true, Bool.or_eq_true, decide_eq_true_eq, beq_iff_eq] at hB
    cases k with
    | zero =>
      intro hn i hi
      rcases hB.1 with h1 | h1
      · omega
      · have h2 := congrArg (fun q => Nat.testBit q i) h1
        simp only [Nat.testBit_and, Nat.testBit_or, Nat.testBit_two_pow_sub_one] at h2
        rw [Nat.add_zero] at hi ⊢
        simp only [hi, decide_true, Bool.and_true, Bool.or_eq_true] at h2
        rcases h2 with h2 | h2
        · exact .inl h2
        · split at h2
          · rename_i hk
            rw [Nat.testBit_two_pow] at h2
            exact .inr ⟨hk, (of_decide_eq_true h2).symm⟩
          · simp at h2
    | succ k =>
      intro hn i hi
      have := tailL_spec S (k0 + 1) hB.2 k (by simpa using h) (by omega) i (by omega)
      rw [show k0 + (k + 1) = k0 + 1 + k by omega]
      exact this
theorem wpAny_seqL {M : List Nat} {n m : Nat} (B : SureB ops M ops.size m) (htail : ∀ k i, n ≤ i → i < k → k < ops.size → waits M k i = true) : ∀ (l : List Oper) (k : Nat) (listed : Array Bool) (a : Act) (w : World), n ≤ k → k + l.length = ops.size → (∀ j, l[j]? = ops[k + j]?) →
    listed.size = ops.size → (∀ j, j < k → listed.getD j false = true) → (∀ j, k ≤ j → listed.getD j false = false) → wpList P ops Q l a w → wpAny P .any ops Q l.length listed a w
  | [], k, listed, a, w, _, hlen, _, hs, h1, _, h => by
    refine ⟨?_, h⟩
    cases hr : Region.ready .any ops listed with
    | nil => rfl
    | cons x xs =>
      have hx : x ∈ Region.ready .any ops listed := by rw [hr]; simp
      obtain ⟨hu, o, ho, _⟩ := mem_ready.1 hx
      have hlt : x < ops.size := (Array.getElem?_eq_some_iff.1 ho).1
      have := h1 x (by simp at hlen; omega)
      rw [getD_alike hu] at this
      cases this
  | o :: l, k, listed, a, w, hn, hlen, hl, hs, h1, h2, h => by
    have h0 : ops[k]? = some o := by simpa using (hl 0).symm
    have hk : k < ops.size := (Array.getElem?_eq_some_iff.1 h0).1
    have hkr : k ∈ Region.ready .any ops listed := mem_ready.2 ⟨by
      have := h2 k (Nat.le_refl _)
      have hkl : k < listed.size := by omega
      simp [hkl] at this ⊢; exact this, o, h0, fun e he hb => h1 e.on (B.edge k o h0 e he hb)⟩
    refine ⟨fun h1 => (by rw [h1] at hkr; cases hkr), fun i hi => ?_⟩
    have hik : i = k := by
      obtain ⟨hu, oi, hoi, hall⟩ := mem_ready.1 hi
      have hi' : i < ops.size := (Array.getElem?_eq_some_iff.1 hoi).1
      rcases Nat.lt_trichotomy i k with h | h | h
      · have := h1 i h; rw [getD_alike hu] at this; cases this
      · exact h
      · have hw := htail i k hn h hi'
        have := waits_listed B (listed := listed) (fun j oj hj hlj e he hb => by
          have hjk : j < k := by
            rcases Nat.lt_or_ge j k with h' | h'
            · exact h'
            · rw [h2 j h'] at hlj; cases hlj
          exact h1 e.on (Nat.lt_trans (B.edge j oj hj e he hb) hjk)) i oi hoi hall k hw
        rw [h2 k (Nat.le_refl _)] at this
        cases this
    subst hik
    have hw : wpOp P ops Q i (wpList P ops Q l) a w := by unfold wpOp; simp only [h0]; exact h
    have hil : i < listed.size := by omega
    refine wpOp_mono (fun a' w' h' => wpAny_seqL B htail l (i + 1) _ a' w' (by omega) (by simp at hlen; omega) (fun j => by have := hl (j + 1); simpa [Nat.add_assoc, Nat.add_comm 1 j] using this) (by simp [hs]) (fun j hj => ?_) (fun j hj => ?_) h') hw
    · by_cases hji : i = j
      · subst hji; simp [hil]
      · exact getD_set_true (h1 j (by omega))
    · rw [getD_set_ne false (by omega)]; exact h2 j (by omega)
/-- the operation that is taken first -/
theorem sure_put {C : Cfg} {Gs : List Good} {a0 : Act} {w0 : World} {n m : Nat} (S : SureB ops C.M n m) (hm : a0.tmps.size = m) (hW : C.W = [])
    {listed : Array Bool} {a : Act} {w : World} (I : SureInv C ops Gs a0 w0 n listed a w) {k : Nat} {o : Oper} (ho : ops[k]? = some o) (hr : k ∈ Region.ready .any ops listed) (hkn : k < n) {v : Value} (hg : good Gs k v w) :
    SureInv C ops Gs a0 w0 n (listed.setIfInBounds k true) (a.put o.dst v) w := by
  obtain ⟨hun, o', ho', hall⟩ := mem_ready.1 hr
  have : o' = o := Option.some.inj (ho'.symm.trans ho)
  subst this
  have hks : k < ops.size := (Array.getElem?_eq_some_iff.1 ho).1
  have hkl : k < listed.size := by rw [I.size]; exact hks
  refine ⟨by simp [I.size], ?_, ?_, I.ext, by rw [put_defers]; exact I.defers, by rw [put_size]; exact I.tsize, ?_, ?_⟩
  · intro j oj hj hl e he hb
    by_cases hkj : k = j
    · subst hkj
      have : oj = o' := Option.some.inj (hj.symm.trans ho)
      subst this
      exact getD_set_true (hall e he hb)
    · rw [getD_set_ne false hkj] at hl
      exact getD_set_true (I.closed j oj hj hl e he hb)
  · intro t ht
    rw [getD_set_ne false (by omega)]
    exact I.tail t ht
  · intro t ht
    have hk' : dstOf ops k ≠ some t := ht k (by simp [hkl])
    rw [dstOf_some ho] at hk'
    have h2 : (a.put o'.dst v).tmps[t]? = a.tmps[t]? := by
      cases hd : o'.dst with
      | none => rfl
      | some d => rw [hd] at hk'; exact put_get_ne _ (fun e => hk' (by rw [e]))
    rw [h2]
    exact I.frame t (fun j hl => ht j (getD_set_true hl))
  · intro j hl _
    by_cases hkj : k = j
    · subst hkj
      refine ⟨v, fun d hd => ?_, hg⟩
      rw [dstOf_some ho] at hd
      rw [hd]
      exact put_get_same _ (by rw [I.tsize, hm]; exact S.inside k d (by rw [dstOf_some ho]; exact hd))
    · rw [getD_set_ne false hkj] at hl
      obtain ⟨u, hu, hgu⟩ := I.good j hl (fun c hc => by rw [hW] at hc; cases hc)
      refine ⟨u, fun d hd => ?_, hgu⟩
      cases hd' : o'.dst with
      | none => exact hu d hd
      | some d' =>
        rw [put_get_ne _ (fun e => S.apart k j d' hkj (by rw [dstOf_some ho]; exact hd') (by rw [e]; exact hd))]
        exact hu d hd
theorem wpAny_late {C : Cfg} {Gs : List Good} {a0 : Act} {w0 : World} {n m L : Nat} {oL : Oper} (S : SureB ops C.M ops.size m) (hnN : n ≤ ops.size) (hLn : L < n) (hW : C.W = []) (hoL : ops[L]? = some oL) (hfree : lateFree ops C.M L = true) (hsel : Region.noSelect ops = true)
    (htail : ∀ k i, n ≤ k → k < ops.size → i < k → waits C.M k i = true ∨ (k = n ∧ i = L))
    (hS : ops.toList.map rowOf = C.S) (hm : a0.tmps.size = m) (hst : ∀ j v w w', good Gs j v w → Ext w w' → good Gs j v w')
    (hfr : ∀ j, C.F.getD j true = true → ∀ v w w', good Gs j v w → WildR C.E w w' → good Gs j v w')
    (hone : ∀ k o, k < n → ops[k]? = some o → sureOne P C (fun j => Gs.getD j Good.any) a0 w0 k o (Gs.getD k Good.any))
    (hQ : ∀ v c a w, Q (.panic c) (a.put oL.dst v) w → Q (.panic c) a w)
    (hlate : ∀ listed a w, SureInv C ops Gs a0 w0 ops.size listed a w → (∀ j, waits C.M L j = true → listed.getD j false = true) → ∃ v, (∀ w', (execOp a.eval oL).run P w' = .ok (.value v) w') ∧ good Gs L v w)
    (hend : ∀ listed a w, SureInv C ops Gs a0 w0 ops.size listed a w → (∀ t, n ≤ t → listed.getD t false = false) → (∀ i, i < n → listed.getD i false = true) → wpAny P .any ops Q (ops.size - n) listed a w) :
    ∀ (c : Nat) (listed : Array Bool) (a : Act) (w : World), SureInv C ops Gs a0 w0 ops.size listed a w → (∀ t, n ≤ t → listed.getD t false = false) → (List.range n).countP (fun i => !listed.getD i false) = c → wpAny P .any ops Q (c + (ops.size - n)) listed a w
  | 0, listed, a, w, I, hT, hc => by
    rw [Nat.zero_add]
    refine hend listed a w I hT fun i hi => ?_
    have := List.countP_eq_zero.1 hc i (List.mem_range.2 hi)
    simpa using this
  | c + 1, listed, a, w, I, hT, hc => by
    rw [show c + 1 + (ops.size - n) = (c + (ops.size - n)) + 1 by omega]
    have cnt : ∀ k, k < n → listed.getD k false = false → (List.range n).countP (fun i => !(listed.setIfInBounds k true).getD i false) = c := fun k hkn hkun => by
      have hkl : k < listed.size := by rw [I.size]; omega
      have h2 := countP_less (p := fun i => !listed.getD i false) (q := fun i => !(listed.setIfInBounds k true).getD i false) (k := k)
        (by simp only [hkun, Bool.not_false]) (by simp [hkl]) (fun j hj => by simp only [getD_set_ne false (Ne.symm hj)]) n hkn
      omega
    have hT' : ∀ k, k < n → ∀ t, n ≤ t → (listed.setIfInBounds k true).getD t false = false := fun k hk t ht => by rw [getD_set_ne false (by omega)]; exact hT t ht
    by_cases hLr : L ∈ Region.ready .any ops listed
    · obtain ⟨hun, o', ho', hall⟩ := mem_ready.1 hLr
      have e : o' = oL := Option.some.inj (ho'.symm.trans hoL)
      subst e
      have dep : ∀ j, waits C.M L j = true → listed.getD j false = true := fun j hw => waits_listed S I.closed L o' ho' hall j hw
      obtain ⟨v, hy, hg⟩ := hlate listed a w I dep
      simp only [lateFree, hoL, Bool.and_eq_true, List.all_eq_true, List.mem_range, Bool.or_eq_true, beq_iff_eq] at hfree
      have hgd : o'.guard = none := by have := hfree.1; simpa using this
      refine wpAny_first hoL (Region.noSelect_spec hsel) (hQ v) _ listed a w (fun j oj hj hne hunj hno => ?_) hLr (.inl ⟨by simp [Region.wanted, hgd], hy⟩)
        (wpAny_late S hnN hLn hW hoL (by simp only [lateFree, hoL, Bool.and_eq_true, List.all_eq_true, List.mem_range, Bool.or_eq_true, beq_iff_eq]; exact hfree) hsel htail hS hm hst hfr hone hQ hlate hend c _ _ w (sure_put S hm hW I hoL hLr (by omega) hg) (hT' L hLn) (cnt L hLn (getD_alike hun)))
      have hjs : j < ops.size := (Array.getElem?_eq_some_iff.1 hj).1
      rcases hfree.2 j hjs with (h1 | h1) | h1
      · exact absurd h1 hne
      · have := getD_alike hunj
        have h2 := dep j h1
        rw [this] at h2; cases h2
      · rw [hj] at h1
        simp only [Bool.or_eq_true] at h1
        rcases h1 with h1 | h1
        · obtain ⟨e, he, hb⟩ := Array.any_eq_true'.1 h1
          simp only [Bool.and_eq_true, beq_iff_eq] at hb
          exact absurd hb.2 (hno e he hb.1)
        · exact h1
    · -- the least one that is still to come
      have hex : ∃ i, i < n ∧ listed.getD i false = false ∧ ∀ j, j < i → listed.getD j false = true := by
        have hpos : 0 < (List.range n).countP (fun i => !listed.getD i false) := by omega
        obtain ⟨i, hi, hn⟩ := List.countP_pos_iff.1 hpos
        have key : ∀ i, i < n → listed.getD i false = false → ∃ i, i < n ∧ listed.getD i false = false ∧ ∀ j, j < i → listed.getD j false = true := by
          intro i
          induction i using Nat.strongRecOn with
          | _ i ih =>
            intro h1 h2
            by_cases hall : ∀ j, j < i → listed.getD j false = true
            · exact ⟨i, h1, h2, hall⟩
            · have hne : ∃ j, j < i ∧ listed.getD j false = false := by
                rcases Classical.em (∃ j, j < i ∧ listed.getD j false = false) with h | h
                · exact h
                · exact absurd (fun j hj => by
                    cases hq : listed.getD j false with
                    | true => rfl
                    | false => exact absurd ⟨j, hj, hq⟩ h) hall
              obtain ⟨j, hj, hjf⟩ := hne
              exact ih j hj (by omega) hjf
        exact key i (List.mem_range.1 hi) (by simpa using hn)
      obtain ⟨i, hin, hif, hall⟩ := hex
      have his : i < ops.size := Nat.lt_of_lt_of_le hin hnN
      have hir : i ∈ Region.ready .any ops listed := by
        refine mem_ready.2 ⟨?_, ops[i], Array.getElem?_eq_getElem his, fun e he hb => hall e.on (S.edge i ops[i] (Array.getElem?_eq_getElem his) e he hb)⟩
        have hil : i < listed.size := by rw [I.size]; exact his
        simp [hil] at hif ⊢; exact hif
      refine ⟨fun h => (by rw [h] at hir; cases hir), fun k hk => ?_⟩
      obtain ⟨hkun, o, ho, hkall⟩ := mem_ready.1 hk
      have hks : k < ops.size := (Array.getElem?_eq_some_iff.1 ho).1
      have hkn : k < n := by
        rcases Nat.lt_or_ge k n with h | h
        · exact h
        · rcases htail k i h hks (by omega) with h2 | ⟨h2, rfl⟩
          · have h3 := waits_listed S I.closed k o ho hkall i h2
            rw [hif] at h3; cases h3
          · exact absurd hir hLr
      exact wpOp_mono (fun a' w' I' => wpAny_late S hnN hLn hW hoL hfree hsel htail hS hm hst hfr hone hQ hlate hend c _ a' w' I' (hT' k hkn) (cnt k hkn (getD_alike hkun))) (sure_step S hS hm hst hfr I ho hk (by omega) (hone k o hkn ho))
/-- A REGION THAT DRAWS ITS ORDER, with one operation L that turns nothing and may come behind the tail's first one -/
theorem wp_region_late {id : Nat} {a0 : Act} {w : World} {l : List Oper} (L : Nat) (jsL : List (Nat × Tmp)) (C : Cfg) (n m : Nat) (js es : List (Nat × Tmp)) (Gs : List Good) (hmix : P.follows .mixedOrders = true)
    (hS : l.map rowOf = C.S) (hB : sureLB C.S C.M n m L = true) (hm : a0.tmps.size = m) (hjs : endPairs C.S n = js) (hes : (js.filter fun p => aliveB C p.1) = es) (hF : Gs.map (fun g => g.free C.E) = C.F)
    (hfree : lateFree l.toArray C.M L = true) (hlook : (jsL.all fun p => waits C.M L p.1 && dstS C.S p.1 == some p.2) = true) (hsel : Region.noSelect l.toArray = true) (hW : C.W = [])
    (hQ : ∀ (d : Tmp) (v : Value) c a w, Q (.panic c) (a.put (some d) v) w → Q (.panic c) a w)
    (hlate : ∀ (V : Nat → Good), places V 0 Gs → ∀ w', Ext w.drew w' → ∀ ρ, Env ρ → seen V ρ w' jsL → ∀ o, l[L]? = some o → ∃ v, (∀ w'', (execOp ρ o).run P w'' = .ok (.value v) w'') ∧ (V L).G v w')
    (h : ∀ (C' : Cfg) (a' : Act) (V : Nat → Good), C' = C → a' = a0 → places V 0 Gs → sureAll P C' V a' w.drew 0 (l.take n))
    (hend : ∀ (xs : Nat → Value) (w' : World), Ext w.drew w' → goods Gs xs w' es → wpList P l.toArray Q (l.drop n) (putAll js xs a0) w') :
    (Code.region id l.toArray true).wp P Q a0 w := by
  have hS' : l.toArray.toList.map rowOf = C.S := by simpa using hS
  simp only [sureLB, Bool.and_eq_true, decide_eq_true_eq] at hB
  obtain ⟨⟨⟨hn1, hLn⟩, hB1⟩, hB2⟩ := hB
  have hlS : C.S.length = l.toArray.size := by rw [← hS']; simp
  have B := sureB_spec hS' hB1
  rw [hlS] at B
  have hnN : n ≤ l.toArray.size := by omega
  have htail : ∀ k i, n ≤ k → k < l.toArray.size → i < k → waits C.M k i = true ∨ (k = n ∧ i = L) := fun k i h1 h2 h3 => by
    have := tailL_spec C.S 0 hB2 k (by omega) (by omega) i (by omega)
    simpa using this
  obtain ⟨oL, hoL⟩ : ∃ o, l.toArray[L]? = some o := ⟨l.toArray[L]'(by omega), Array.getElem?_eq_getElem _⟩
  have hP0 := places_of Gs Gs 0 (fun j _ => by rw [Nat.zero_add])
  have hone := sureAll_at (l.take n) 0 (h C a0 (fun j => Gs.getD j Good.any) rfl rfl hP0)
  have hst : ∀ j v w w', good Gs j v w → Ext w w' → good Gs j v w' := fun j v w w' h hx => (Gs.getD j Good.any).st v w w' h hx
  have hone' : ∀ k o, k < n → l.toArray[k]? = some o → sureOne P C (fun j => Gs.getD j Good.any) a0 w.drew k o (Gs.getD k Good.any) := fun k o hk ho => by
    have := hone k o (by rw [List.getElem?_take]; simp [hk]; simpa using ho)
    simpa using this
  have hfr : ∀ j, C.F.getD j true = true → ∀ v w w', good Gs j v w → WildR C.E w w' → good Gs j v w' := fun j hj v w w' hg hx => by
    refine (Gs.getD j Good.any).fr C.E ?_ v w w' hg hx
    rw [← hF] at hj
    rcases Nat.lt_or_ge j Gs.length with h' | h'
    · simp [h'] at hj ⊢; exact hj
    · rw [List.getD_eq_getElem?_getD, List.getElem?_eq_none h']; rfl
  refine wp_region_any hmix ?_
  have I0 : SureInv C l.toArray Gs a0 w.drew l.toArray.size (Array.replicate l.toArray.size false) a0 { w with drawn := w.drawn + 1 } := by
    have hf : ∀ j, (Array.replicate l.toArray.size false).getD j false = false := rep_false _
    refine ⟨by simp, fun j oj _ h => (by rw [hf] at h; cases h), fun t _ => hf t, Ext.refl _, rfl, rfl, fun t _ => rfl, fun j h _ => (by rw [hf] at h; cases h)⟩
  have hno : ∀ (listed : Array Bool) (j : Nat), ∀ c, c ∈ C.W → listed.getD c false = true → alive C j c = true := fun _ _ c hc => by rw [hW] at hc; cases hc
  have h := wpAny_late (Q := Q) B hnN hLn hW hoL hfree hsel htail hS' hm hst hfr hone' (fun v c a w => by cases hd : oL.dst with | none => exact fun h => h | some d => exact hQ d v c a w) (fun listed a w' I hdep => by
      refine hlate (fun j => Gs.getD j Good.any) hP0 w' I.ext a.eval (act_env a) (seen_of fun p hp => ?_) oL (by simpa using hoL)
      have h2 := List.all_eq_true.1 hlook p hp
      simp only [Bool.and_eq_true, beq_iff_eq] at h2
      obtain ⟨v, hv, hg⟩ := I.good p.1 (hdep p.1 h2.1) (hno _ _)
      rw [act_eval (hv _ (by rw [← dst_eq hS']; exact h2.2))]
      exact hg) (fun listed a w' I hT hall => by
    have hpairs : ∀ p ∈ endPairs C.S n, p.1 < n ∧ dstOf l.toArray p.1 = some p.2 := fun p hp => by
      obtain ⟨j, hj, e⟩ := List.mem_filterMap.1 hp
      obtain ⟨d, hd, rfl⟩ := Option.map_eq_some_iff.1 e
      rw [dst_eq hS'] at hd
      exact ⟨List.mem_range.1 hj, hd⟩
    let xs : Nat → Value := fun j => match dstOf l.toArray j with | some d => a.tmps.getD d undef | none => undef
    have hxv : ∀ j d, dstOf l.toArray j = some d → a.tmps[d]? = some (xs j) := fun j d hj => by
      have hd : d < a.tmps.size := by rw [I.tsize, hm]; exact B.inside j d hj
      simp only [xs, hj, Array.getD_eq_getD_getElem?, Array.getElem?_eq_getElem hd, Option.getD_some]
    have hxs : ∀ j d, dstOf l.toArray j = some d → listed.getD j false = true → aliveB C j = true → good Gs j (xs j) w' := fun j d hj hl ha => by
      obtain ⟨v, hv, hg⟩ := I.good j hl (fun c hc _ => List.all_eq_true.1 ha c hc)
      have h2 := hv d hj
      have h3 : xs j = v := Option.some.inj ((hxv j d hj).symm.trans h2)
      rw [h3]
      exact hg
    have hgoods : goods Gs xs w' es := goods_mem fun p hp => by
      rw [← hes, ← hjs] at hp
      obtain ⟨hp, hal⟩ := List.mem_filter.1 hp
      obtain ⟨h1, h2⟩ := hpairs p hp
      exact hxs p.1 p.2 h2 (hall _ h1) hal
    have ha : a = putAll js xs a0 := by
      have ht : a.tmps = (putAll js xs a0).tmps := by
        refine Array.ext_getElem? fun t => ?_
        rw [← hjs]
        by_cases hex : ∃ j, j < n ∧ dstOf l.toArray j = some t
        · obtain ⟨j, hj, hd⟩ := hex
          rw [putAll_in (endPairs C.S n) xs a0 j t (List.mem_filterMap.2 ⟨j, List.mem_range.2 hj, by rw [dst_eq hS', hd]; rfl⟩) (fun p hp hpd => by
            obtain ⟨_, h2⟩ := hpairs p hp
            rw [hpd] at h2
            rcases Nat.decEq p.1 j with h | h
            · exact absurd hd (B.apart p.1 j t h h2)
            · exact h) (by rw [hm]; exact B.inside j t hd)]
          exact hxv j t hd
        · rw [putAll_out _ xs a0 t (fun p hp hpd => by
            obtain ⟨h1, h2⟩ := hpairs p hp
            exact hex ⟨p.1, h1, by rw [← hpd]; exact h2⟩)]
          refine I.frame t fun j hl hj => hex ⟨j, ?_, hj⟩
          rcases Nat.lt_or_ge j n with h | h
          · exact h
          · rw [hT j h] at hl; cases hl
      have hd : a.defers = (putAll js xs a0).defers := by rw [putAll_defers]; exact I.defers
      cases a
      cases hq : putAll js xs a0
      rw [hq] at ht hd
      simp only at ht hd
      rw [ht, hd]
    have hlen : l.toArray.size - n = (l.drop n).length := by simp
    rw [hlen, ha]
    exact wpAny_seqL B (n := n) (fun k i h1 h2 h3 => by
      rcases htail k i (by omega) h3 h2 with h4 | ⟨h4, h5⟩
      · exact h4
      · omega) (l.drop n) n _ _ _ (Nat.le_refl _) (by simp at hnN ⊢; omega) (fun j => by simp) I.size hall hT (hend xs w' I.ext hgoods)) n (Array.replicate l.toArray.size false) a0 _ I0 (fun t _ => rep_false _ t) (by
      have : (fun i => !(Array.replicate l.toArray.size false).getD i false) = fun _ : Nat => true := by
        funext i
        rw [rep_false]; rfl
      rw [this]
      simp)
  have hsz : n + (l.toArray.size - n) = l.toArray.size := by omega
  rw [hsz] at h
  exact h
end
end Go.Proofs.Ytkdjmfaodojmfaa

namespace Go.Proofs.Ytkdjmfaodojmfaa
open Go.RowKit

theorem info_res : (Try.prog.info? 130).map (fun i => (i.zero, i.size, i.bytes)) = some (some (.agg #[.int .u64 0, .slice none 0 0, .bool false]), 3, 40) := by kernel_rfl
/-- results in a row -/
def resCells (l : List Res) : List Value := l.flatMap Res.cells
theorem resCells_append (a b : List Res) : resCells (a ++ b) = resCells a ++ resCells b := by simp [resCells]
theorem resCells_length (l : List Res) : (resCells l).length = l.length * 3 := by
  induction l with
  | nil => rfl
  | cons x l ih => simp only [resCells, List.flatMap_cons, List.length_append, List.length_cons] at *; rw [ih]; simp [Res.cells]; omega
theorem resCells_one (l : List Res) : ∀ u ∈ resCells l, u.oneCell' = true := by
  intro u hu
  obtain ⟨x, _, hx⟩ := List.mem_flatMap.1 hu
  simp only [Res.cells, List.mem_cons, List.not_mem_nil, or_false] at hx
  rcases hx with rfl | rfl | rfl <;> rfl
theorem LogV.of_cells {w : World} {A : Option Addr} {n c : Nat} {l : List Res} (hn : l.length = n) (hs : n ≤ 65536) (h : Cells w A (resCells l)) : LogV w A n c l := by
  refine ⟨hn, hs, fun j r hj => ?_⟩
  have h3 : ∀ k, k < 3 → (resCells l)[j * 3 + k]? = (Res.cells r)[k]? := fun k hk => flat_at Res.cells 3 (fun _ => rfl) l j r hj k hk
  have hne : resCells l ≠ [] := fun e => by
    have h0 := h3 0 (by omega)
    rw [e] at h0
    simp [Res.cells] at h0
  obtain ⟨a, ha, hc⟩ := h hne
  refine ⟨a, ha, ?_, ?_, ?_⟩
  · exact hc _ _ ((h3 0 (by omega)).trans rfl)
  · rw [add_add3]; exact hc _ _ ((h3 1 (by omega)).trans rfl)
  · rw [add_add3]; exact hc _ _ ((h3 2 (by omega)).trans rfl)
theorem ownsRow_kept {w w' : World} {base size : Nat} {e : TypeId} {v : Value} {n : Nat} {xs : List Value} (h : w.ownsRow base e size v n xs) (hk : ∀ g, base ≤ g → w'.heap[g]? = w.heap[g]?) : w'.ownsRow base e size v n xs := by
  refine ⟨h.1, ?_⟩
  rcases h.2 with h2 | ⟨g', cap, cur, h3, h4, h5, h6⟩
  · exact .inl h2
  · exact .inr ⟨g', cap, cur, h3, h4, (hk g' h4).trans h5, h6⟩
theorem ownsRow_nil (w : World) (base size : Nat) (e : TypeId) : w.ownsRow base e size (.slice none 0 0) 0 [] := ⟨by simp, .inl ⟨rfl, rfl⟩⟩
/-- a world in a place -/
def BoxW (w : World) (g : Nat) (X : WldK) : Prop := ∃ v : Array Value, w.heap[g]? = some (.cells v 51 (0, 0)) ∧ WldV w (.agg v) X
theorem BoxW.ext {w w' : World} {g : Nat} {X : WldK} (h : BoxW w g X) (hx : Ext w w') : BoxW w' g X := let ⟨v, h1, h2⟩ := h; ⟨v, heap_ext h1 hx, h2.ext hx⟩
theorem WldV.form6 {w : World} {v : Value} {X : WldK} (h : WldV w v X) : ∃ (A : Option Addr) (q c : Nat) (B : Option Addr) (b : Nat) (C : Option Addr) (d : Nat), v = .agg #[.int .i64 X.T, .int .i64 X.C, .slice A q c, .int .u64 X.R, .slice B X.n b, .slice C X.n d] := by
  obtain ⟨A, q, c, B, C, b, d, rfl, -, -⟩ := h
  exact ⟨A, q, c, B, b, C, d, rfl⟩
theorem BoxW.form {w : World} {g : Nat} {X : WldK} (h : BoxW w g X) : ∃ (A : Option Addr) (q c : Nat) (B : Option Addr) (b : Nat) (C : Option Addr) (d : Nat), w.heap[g]? = some (.cells #[.int .i64 X.T, .int .i64 X.C, .slice A q c, .int .u64 X.R, .slice B X.n b, .slice C X.n d] 51 (0, 0)) ∧
    WldV w (.agg #[.int .i64 X.T, .int .i64 X.C, .slice A q c, .int .u64 X.R, .slice B X.n b, .slice C X.n d]) X := by
  obtain ⟨v, h1, h2⟩ := h
  obtain ⟨A, q, c, B, b, C, d, e⟩ := h2.form6
  obtain rfl := Value.agg.inj e
  exact ⟨A, q, c, B, b, C, d, h1, h2⟩
theorem accv_len {w : World} {x : Acc} {K : AccK} (h : AccV w x.v K) : K.data.length = x.dk := by
  obtain ⟨D, m, cd, B, q, cb, e, hB, -⟩ := h
  obtain ⟨x0, x1, x2, x3, x4, x5, x6, x7, x8, x9⟩ := x
  simp only [Acc.v, Acc.cells, Value.agg.injEq, Array.mk.injEq, List.cons.injEq, Value.slice.injEq, and_true] at e
  obtain ⟨-, -, -, -, ⟨rfl, rfl, rfl⟩, -⟩ := e
  exact hB.len
theorem cells_heap {w : World} {g : Nat} {cs : List Value} {T : TypeId} {fr : Nat × Nat} (h : w.heap[g]? = some (.cells cs.toArray T fr)) : Cells w (some ⟨g, 0, none⟩) cs := fun _ =>
  ⟨_, rfl, fun j u hj => by rw [add_at]; simp only [World.cell?, h, Option.isSome_none, Bool.false_eq_true, if_false]; simpa using hj⟩
theorem outs_lit {a : Int} {b : Bool} {c d : Int} (w : World) :
    Calls Try.prog 20 #[.agg #[.int .i64 a, .bool b, .int .i64 c, .int .u64 d, .slice none 0 0], .agg #[.int .i64 a, .bool b, .int .i64 c, .int .u64 d, .slice none 0 0]] w fun e w' => e = .returned (.bool true) ∧ Ext w w' :=
  outs_yes ⟨a, b, c, d⟩ w

open Go.RowKit

/-! A row of results of the call's own, its spare part known too: what is laid onto it turns no world. -/
theorem resCells_cons (r : Res) (l : List Res) : resCells (r :: l) = .int .u64 r.n :: .slice r.A r.k r.c :: .bool r.fail :: resCells l := rfl
theorem resCells_take : ∀ (l : List Res) (n : Nat), (resCells l).take (n * 3) = resCells (l.take n)
  | [], n => by simp [resCells]
  | r :: l, 0 => by simp [resCells]
  | r :: l, n + 1 => by
    rw [List.take_succ_cons, resCells_cons, resCells_cons, show (n + 1) * 3 = n * 3 + 1 + 1 + 1 by omega, List.take_succ_cons, List.take_succ_cons, List.take_succ_cons, resCells_take l n]
theorem resCells_drop : ∀ (l : List Res) (n : Nat), (resCells l).drop (n * 3) = resCells (l.drop n)
  | [], n => by simp [resCells]
  | r :: l, 0 => by simp
  | r :: l, n + 1 => by
    rw [List.drop_succ_cons, resCells_cons, show (n + 1) * 3 = n * 3 + 1 + 1 + 1 by omega, List.drop_succ_cons, List.drop_succ_cons, List.drop_succ_cons, resCells_drop l n]
theorem res_boxish : ∀ l : List Res, boxish (resCells l) = true
  | [] => rfl
  | [r] => rfl
  | r :: r' :: l => by
    have h := res_boxish (r' :: l)
    rw [resCells_cons] at h
    rw [resCells_cons, resCells_cons]
    simpa [boxish, kindV] using h
theorem zero_res (k : Nat) : (Builtin.zeroCells #[.int .u64 0, .slice none 0 0, .bool false] k).toList = resCells (List.replicate k ⟨0, none, 0, 0, false⟩) := by
  refine List.ext_getElem? fun x => ?_
  by_cases hx : x < k * 3
  · have h1 : (List.replicate k (⟨0, none, 0, 0, false⟩ : Res))[x / 3]? = some ⟨0, none, 0, 0, false⟩ := by rw [List.getElem?_replicate]; rw [if_pos (by omega)]
    have h2 := flat_at Res.cells 3 (fun _ => rfl) _ (x / 3) _ h1 (x % 3) (Nat.mod_lt _ (by omega))
    rw [show x / 3 * 3 + x % 3 = x by omega] at h2
    rw [resCells, h2]
    have h3 : x % 3 = 0 ∨ x % 3 = 1 ∨ x % 3 = 2 := by omega
    rcases h3 with h3 | h3 | h3 <;> simp [Builtin.zeroCells, Res.cells, h3, hx]
  · rw [List.getElem?_eq_none (by simp [Builtin.zeroCells]; omega), List.getElem?_eq_none (by rw [resCells_length]; simp; omega)]
def ResOwn (w : World) (base : Nat) (v : Value) (n : Nat) (rs : List Res) : Prop :=
  rs.length = n ∧ ((v = .slice none 0 0 ∧ n = 0) ∨ ∃ g cap l, v = .slice (some ⟨g, 0, none⟩) n cap ∧ base ≤ g ∧ w.heap[g]? = some (.cells (resCells l).toArray 130 (0, 0)) ∧ n ≤ cap ∧ cap ≤ maxLen ∧ l.length = cap ∧ l.take n = rs)
theorem ResOwn.nil (w : World) (base : Nat) : ResOwn w base (.slice none 0 0) 0 [] := ⟨rfl, .inl ⟨rfl, rfl⟩⟩
theorem ResOwn.kept {w w' : World} {base : Nat} {v : Value} {n : Nat} {rs : List Res} (h : ResOwn w base v n rs) (hk : ∀ g o, base ≤ g → w.heap[g]? = some o → w'.heap[g]? = some o) : ResOwn w' base v n rs := by
  refine ⟨h.1, ?_⟩
  rcases h.2 with h2 | ⟨g, cap, l, e, hb, hg, h3⟩
  · exact .inl h2
  · exact .inr ⟨g, cap, l, e, hb, hk g _ hb hg, h3⟩
theorem ResOwn.ext {w w' : World} {base : Nat} {v : Value} {n : Nat} {rs : List Res} (h : ResOwn w base v n rs) (hx : Ext w w') : ResOwn w' base v n rs := h.kept fun _ _ _ ho => heap_ext ho hx
theorem ResOwn.log {w : World} {base : Nat} {v : Value} {n : Nat} {rs : List Res} (h : ResOwn w base v n rs) (hn : n ≤ 65536) : ∃ B c, v = .slice B n c ∧ LogV w B n c rs ∧ (B = none → c = 0 ∧ n = 0) ∧ Cells w B (resCells rs) := by
  obtain ⟨hl, h⟩ := h
  rcases h with ⟨rfl, rfl⟩ | ⟨g, cap, l, rfl, hb, hg, h1, h2, h3, rfl⟩
  · have : rs = [] := List.eq_nil_of_length_eq_zero hl
    subst this
    exact ⟨none, 0, rfl, log_nil w, fun _ => ⟨rfl, rfl⟩, Cells.nil _ _⟩
  · have hc : Cells w (some ⟨g, 0, none⟩) (resCells (l.take n)) := fun _ => ⟨_, rfl, fun j u hj => by
      rw [← resCells_take, List.getElem?_take] at hj
      split at hj
      · obtain ⟨a, ha, hc⟩ := cells_heap hg (fun e => by rw [e] at hj; simp at hj)
        cases ha
        exact hc j u hj
      · cases hj⟩
    exact ⟨_, _, rfl, LogV.of_cells hl hn hc, (by intro h; cases h), hc⟩
/-- a world outlasts what may turn but such a row -/
theorem WldV.grown {w w' : World} {base : Nat} {v : Value} {n : Nat} {rs : List Res} (h : ResOwn w base v n rs) (hg : w.grownBy w' v.ownBlock) {x : Value} {X : WldK} (hV : WldV w x X) (hl : 2 ≤ X.ws.length) : WldV w' x X := by
  rcases h.2 with ⟨rfl, _⟩ | ⟨g, cap, l, rfl, _, hh, _⟩
  · exact hV.ext ⟨hg.os, hg.tape, hg.output, hg.size, fun k hk => hg.block k hk (by simp [Value.ownBlock])⟩
  · refine hV.but hl (g := g) (fun k o hk ho => ?_) hh (res_boxish l)
    rw [hg.block k (Array.getElem?_eq_some_iff.1 ho).1 (by simp [Value.ownBlock]; exact hk)]; exact ho
theorem grown_heap {w w' : World} {base : Nat} {v : Value} {n : Nat} {rs : List Res} (h : ResOwn w base v n rs) (hg : w.grownBy w' v.ownBlock) {k : Nat} {o : Obj} (hk : k < base) (ho : w.heap[k]? = some o) : w'.heap[k]? = some o := by
  rw [hg.block k (Array.getElem?_eq_some_iff.1 ho).1 ?_]
  · exact ho
  · rcases h.2 with ⟨rfl, _⟩ | ⟨g, cap, l, rfl, hb, hh, _⟩
    · simp [Value.ownBlock]
    · simp only [Value.ownBlock]; intro e; injection e with e; omega
theorem grown_ext {w0 w w' : World} {base : Nat} {v : Value} {n : Nat} {rs : List Res} (h : ResOwn w base v n rs) (hg : w.grownBy w' v.ownBlock) (h0 : Ext w0 w) (hb : w0.heap.size ≤ base) : Ext w0 w' :=
  ⟨hg.os.trans h0.os, hg.tape.trans h0.tape, hg.output.trans h0.output, Nat.le_trans h0.size hg.size, fun k hk => by
    have h1 : k < w.heap.size := Nat.lt_of_lt_of_le hk h0.size
    obtain ⟨o, ho⟩ : ∃ o, w.heap[k]? = some o := ⟨_, Array.getElem?_eq_getElem h1⟩
    rw [grown_heap h hg (by omega) ho, ← ho]
    exact h0.block k hk⟩
theorem run_append_res {P : Program} {w : World} (base : Nat) (t ty : TypeId) (i : TypeInfo) (ht : P.underlying t = some (.slice 130)) (hi : P.info? 130 = some i) (hz : i.zero = some (.agg #[.int .u64 0, .slice none 0 0, .bool false])) (hsize : i.size = 3) (hby : i.bytes = 40)
    (v : Value) (n : Nat) (rs : List Res) (hown : ResOwn w base v n rs) (a : Addr) (c : Nat) (r : Res) (hnews : ∀ j u, (resCells [r])[j]? = some u → w.cell? (a.add j) = some u) (hn : n + 1 ≤ 1000) (hbase : base ≤ w.heap.size) :
    ∃ v' w', (Builtin.append_ #[t, t] ty #[v, .slice (some a) 1 c]).run P w = .ok v' w' ∧ ResOwn w' base v' (n + 1) (rs ++ [r]) ∧ w.grownBy w' v.ownBlock := by
  have hl1 : (resCells [r]).length = 1 * i.size := by rw [hsize, resCells_length]; rfl
  have h1 := resCells_one [r]
  have hlen : (rs ++ [r]).length = n + 1 := by rw [List.length_append, hown.1]; rfl
  have grown : ∀ (old : Nat), old < n + 1 → ∀ (row : Option Nat),
      ResOwn (w.drew.alloc (.cells ((resCells rs).toArray ++ (resCells [r]).toArray ++ Builtin.zeroCells #[.int .u64 0, .slice none 0 0, .bool false] (grownCap w (n + 1) old 130 - (n + 1))) 130)) base
        (.slice (some ⟨w.heap.size, 0, none⟩) (n + 1) (grownCap w (n + 1) old 130)) (n + 1) (rs ++ [r]) ∧
      w.grownBy (w.drew.alloc (.cells ((resCells rs).toArray ++ (resCells [r]).toArray ++ Builtin.zeroCells #[.int .u64 0, .slice none 0 0, .bool false] (grownCap w (n + 1) old 130 - (n + 1))) 130)) row := by
    intro old ho row
    have hge := grownCap_ge w (n + 1) old 130
    have hcm : grownCap w (n + 1) old 130 ≤ maxLen := grownCap_le_maxLen w (n + 1) old _ (by simp only [maxLen]; omega)
    refine ⟨⟨hlen, .inr ⟨w.heap.size, _, (rs ++ [r]) ++ List.replicate (grownCap w (n + 1) old 130 - (n + 1)) ⟨0, none, 0, 0, false⟩, rfl, hbase, ?_, hge, hcm, ?_, ?_⟩⟩, ⟨rfl, rfl, rfl, by simp, fun k hk _ => heap_alloc_old w.drew _ hk⟩⟩
    · have e : ((resCells rs).toArray ++ (resCells [r]).toArray ++ Builtin.zeroCells #[.int .u64 0, .slice none 0 0, .bool false] (grownCap w (n + 1) old 130 - (n + 1))) = (resCells ((rs ++ [r]) ++ List.replicate (grownCap w (n + 1) old 130 - (n + 1)) ⟨0, none, 0, 0, false⟩)).toArray := by
        rw [resCells_append, resCells_append, ← zero_res]
        simp
      rw [e]
      exact heap_alloc_new w.drew _
    · rw [List.length_append, hlen, List.length_replicate]; omega
    · rw [← hlen]; exact List.take_left
  rcases hown.2 with ⟨rfl, rfl⟩ | ⟨g, cap, l, rfl, hbg, hg, hnc, hcm, hcl, htake⟩
  · have hx : rs = [] := List.eq_nil_of_length_eq_zero hown.1
    subst hx
    have hr := run_append_nil (P := P) w t ty 130 i _ ht hi hz a 1 c (resCells [r]) hl1 hnews (by omega) (by omega) (by rw [hby]; omega)
    have hgr := grown 0 (by omega) (Value.ownBlock (.slice none 0 0))
    simp only [Nat.zero_add, resCells, List.flatMap_nil, Array.empty_append] at hgr hr ⊢
    exact ⟨_, _, hr, hgr.1, hgr.2⟩
  · by_cases hroom : n + 1 ≤ cap
    · have hfit : n * i.size + (resCells [r]).length ≤ (resCells l).toArray.size := by rw [hl1, hsize, List.size_toArray, resCells_length, hcl]; omega
      have hr := run_append_room (P := P) w t ty 130 i ht hi g n cap _ hg a 1 c (resCells [r]) hl1 hnews h1 hroom hfit
      have e : ((resCells l).take (n * i.size) ++ resCells [r] ++ (resCells l).drop (n * i.size + (resCells [r]).length)) = resCells ((rs ++ [r]) ++ l.drop (n + 1)) := by
        rw [hl1, hsize, show n * 3 + 1 * 3 = (n + 1) * 3 by omega, resCells_take, resCells_drop, htake, resCells_append, resCells_append]
      rw [List.toList_toArray, e] at hr
      refine ⟨_, _, hr, ⟨hlen, .inr ⟨g, cap, _, rfl, hbg, setRow_heap w g _ _ _ _ hg, hroom, hcm, ?_, ?_⟩⟩, ⟨rfl, rfl, rfl, by simp, fun k _ hk => setRow_other w g k _ (fun e => hk (by simp [Value.ownBlock, e]))⟩⟩
      · rw [List.length_append, hlen, List.length_drop]; omega
      · rw [← hlen]; exact List.take_left
    · have holds : ∀ j u, (resCells rs)[j]? = some u → w.cell? ((⟨g, 0, none⟩ : Addr).add j) = some u := fun j u hj => by
        rw [← htake, ← resCells_take, List.getElem?_take] at hj
        split at hj
        · obtain ⟨a', ha, hc⟩ := cells_heap hg (fun e => by rw [e] at hj; simp at hj)
          cases ha
          exact hc j u hj
        · cases hj
      have hr := run_append_grow (P := P) w t ty 130 i _ ht hi hz ⟨g, 0, none⟩ n cap (resCells rs) (by rw [hsize, resCells_length, hown.1]) holds a 1 c (resCells [r]) hl1 hnews (by omega) (by omega) (growslice_fits (by omega) (by rw [hby]; omega))
      have hgr := grown cap (by omega) (Value.ownBlock (.slice (some ⟨g, 0, none⟩) n cap))
      exact ⟨_, _, hr, hgr.1, hgr.2⟩
theorem wpList_append_res {P : Program} {ops : Array Oper} {rest : List Oper} {o : Oper} {a : Act} {Q : Exit → Act → World → Prop} {w : World} (hgd : o.guard = none) (s x : Operand) (t : TypeId)
    (ho : o.op = .call { callee := .builtin .append, args := #[s, x], argTypes := #[t, t] }) (base : Nat) (i : TypeInfo) (ht : P.underlying t = some (.slice 130)) (hi : P.info? 130 = some i) (hz : i.zero = some (.agg #[.int .u64 0, .slice none 0 0, .bool false])) (hsize : i.size = 3) (hby : i.bytes = 40)
    (v : Value) (n : Nat) (rs : List Res) (hs : a.eval s = v) (hown : ResOwn w base v n rs) (ad : Addr) (c : Nat) (r : Res) (hx : a.eval x = .slice (some ad) 1 c) (hnews : ∀ j u, (resCells [r])[j]? = some u → w.cell? (ad.add j) = some u) (hn : n + 1 ≤ 1000) (hbase : base ≤ w.heap.size)
    (h : ∀ v' w', ResOwn w' base v' (n + 1) (rs ++ [r]) → w.grownBy w' v.ownBlock → wpList P ops Q rest (a.put o.dst v') w') : wpList P ops Q (o :: rest) a w := by
  obtain ⟨v', w', hr, h2, h3⟩ := run_append_res (P := P) (w := w) base t o.type i ht hi hz hsize hby v n rs hown ad c r hnews hn hbase
  refine wpList_plain hgd fun _ hK => ?_
  unfold Oper.wp execOp
  simp only [ho, resolve, invoke, builtin, Sem.run_bind, Sem.run_pure, Result.andThen_ok, List.map_toArray, List.map_cons, List.map_nil, hs, hx, hr]
  exact hK _ _ (h v' w' h2 h3)
theorem heap_cells {w : World} {g : Nat} {cs : List Value} {T : TypeId} {fr : Nat × Nat} (h : w.heap[g]? = some (.cells cs.toArray T fr)) : ∀ j u, cs[j]? = some u → w.cell? ((⟨g, 0, none⟩ : Addr).add j) = some u := fun j u hj => by
  rw [add_at]; simp only [World.cell?, h, Option.isSome_none, Bool.false_eq_true, if_false]; simpa using hj
end Go.Proofs.Ytkdjmfaodojmfaa

namespace Go.Proofs.Ytkdjmfaodojmfaa
open Go.RowKit

/-! pool.Pop and pool.Push as functions of what a log tells: what is asked next, or the answer and how many were told. -/
inductive ProgE where
  | stop (x : Acc)
  | ret (r : Int) (k : Nat)
def accL (i : Int) : Acc := ⟨0, i, 0, 0, none, 0, 0, none, 0, 0⟩
def accS (i a : Int) : Acc := ⟨1, i, a, 0, none, 0, 0, none, 0, 0⟩
def accC (i a b : Int) : Acc := ⟨2, i, a, b, none, 0, 0, none, 0, 0⟩
/-- the place of a record's link -/
def linkI (t r : Int) : Int := 8 + t + 8 * (r - 1) + 7
/-- a top behind a top -/
def topN (r w : Int) : Int := topF r ((tagF w + 1) % 18446744073709551616)
def popN (t : Int) (k : Nat) : List Int → ProgE
  | [] => .stop (accL 1)
  | [w] => if firstF w = 0 then .ret 0 (k + 1) else .stop (accL (linkI t (firstF w)))
  | [w, n] => if firstF w = 0 then .ret 0 (k + 1) else .stop (accC 1 w (topN (firstF n) w))
  | w :: _ :: c :: l => if firstF w = 0 then .ret 0 (k + 1) else if c = 1 then .ret (firstF w) (k + 3) else popN t (k + 3) l
def pushN (t r : Int) (k : Nat) : List Int → ProgE
  | [] => .stop (accL 1)
  | [w] => .stop (accS (linkI t r) (firstF w))
  | [w, _] => .stop (accC 1 w (topN r w))
  | _ :: _ :: c :: l => if c = 1 then .ret 0 (k + 3) else pushN t r (k + 3) l
end Go.Proofs.Ytkdjmfaodojmfaa

namespace Go.Proofs.Ytkdjmfaodojmfaa
open Go.RowKit

/-! Programs as trees: an access of a word is asked, and what it tells says how it goes on. -/
structure Ask where
  kind : Int
  cell : Int
  a : Int
  b : Int
def Ask.acc (x : Ask) : Acc := ⟨x.kind, x.cell, x.a, x.b, none, 0, 0, none, 0, 0⟩
def Ask.K (x : Ask) : AccK := ⟨x.kind, x.cell, x.a, x.b, [], []⟩
/-- an access that may be made: of a word, by numbers that are words -/
def Ask.Ok (x : Ask) : Prop := 0 ≤ x.kind ∧ x.kind ≤ 4 ∧ U64 x.a ∧ U64 x.b
def askL (i : Int) : Ask := ⟨0, i, 0, 0⟩
def askS (i a : Int) : Ask := ⟨1, i, a, 0⟩
def askC (i a b : Int) : Ask := ⟨2, i, a, b⟩
def askX (i a : Int) : Ask := ⟨4, i, a, 0⟩
theorem u64_zero : U64 0 := by unfold U64; omega
theorem askL_ok (i : Int) : (askL i).Ok := ⟨by simp [askL], by simp [askL], u64_zero, u64_zero⟩
theorem askS_ok (i : Int) {a : Int} (h : U64 a) : (askS i a).Ok := ⟨by simp [askS], by simp [askS], h, u64_zero⟩
theorem askC_ok (i : Int) {a b : Int} (h : U64 a) (k : U64 b) : (askC i a b).Ok := ⟨by simp [askC], by simp [askC], h, k⟩
theorem askX_ok (i : Int) {a : Int} (h : U64 a) : (askX i a).Ok := ⟨by simp [askX], by simp [askX], h, u64_zero⟩
inductive PT (α : Type) where
  | ret (a : α)
  | out
  | ask (x : Ask) (k : Int → PT α)
def PT.bind {α β : Type} : PT α → (α → PT β) → PT β
  | .ret a, f => f a
  | .out, _ => .out
  | .ask x k, f => .ask x fun n => (k n).bind f
inductive PR (σ α : Type) where
  | ret (a : α) (s : σ)
  | stop (x : Ask)
  | out
def PT.run {σ α : Type} (st : σ → Ask → Option (Int × σ)) : PT α → σ → PR σ α
  | .ret a, s => .ret a s
  | .out, _ => .out
  | .ask x k, s => match st s x with
    | none => .stop x
    | some (n, s') => (k n).run st s'
theorem PT.run_bind {σ α β : Type} (st : σ → Ask → Option (Int × σ)) (f : α → PT β) : ∀ (T : PT α) (s : σ), (T.bind f).run st s = match T.run st s with
    | .ret a s' => (f a).run st s'
    | .stop x => .stop x
    | .out => .out
  | .ret a, s => rfl
  | .out, s => rfl
  | .ask x k, s => by
    simp only [PT.bind, PT.run]
    cases st s x with
    | none => rfl
    | some q => exact PT.run_bind st f (k q.1) q.2
/-- a log's numbers tell -/
def stL : List Int → Ask → Option (Int × List Int)
  | [], _ => none
  | n :: l, _ => some (n, l)
/-- a world tells -/
def stX (me : Int) (X : WldK) (x : Ask) : Option (Int × WldK) := some ((doR X x.K false).N, doK X me x.K false)
theorem stop_stX {α : Type} {me : Int} {x : Ask} : ∀ {T : PT α} {X : WldK}, T.run (stX me) X ≠ .stop x
  | .ret a, X => by simp [PT.run]
  | .out, X => by simp [PT.run]
  | .ask y k, X => by simp only [PT.run, stX]; exact stop_stX
/-- a tree whose accesses may all be made, if it is told words -/
def PT.Ok {α : Type} : PT α → Prop
  | .ret _ => True
  | .out => True
  | .ask x k => x.Ok ∧ ∀ n, U64 n → (k n).Ok
theorem PT.Ok.bind {α β : Type} {f : α → PT β} : ∀ {T : PT α}, T.Ok → (∀ a, (f a).Ok) → (T.bind f).Ok
  | .ret a, _, h => h a
  | .out, _, _ => trivial
  | .ask _ _, h, hf => ⟨h.1, fun n hn => (h.2 n hn).bind hf⟩
def U64s (l : List Int) : Prop := ∀ n ∈ l, U64 n
theorem PT.Ok.stop {α : Type} {x : Ask} : ∀ {T : PT α} {l : List Int}, T.Ok → U64s l → T.run stL l = .stop x → x.Ok
  | .ret a, l, _, _, h => by simp [PT.run] at h
  | .out, l, _, _, h => by simp [PT.run] at h
  | .ask y k, [], hT, _, h => by simp only [PT.run, stL, PR.stop.injEq] at h; exact h ▸ hT.1
  | .ask y k, n :: l, hT, hl, h => by
    simp only [PT.run, stL] at h
    exact PT.Ok.stop (hT.2 n (hl n (by simp))) (fun m hm => hl m (by simp [hm])) h
/-- what is left of a log when a tree has answered is an end of it -/
theorem run_app {α : Type} {x : Ask} (m : Int) : ∀ {T : PT α} {l : List Int}, T.run stL l = .stop x → ∃ k : Int → PT α, (∀ r, T.run stL (l ++ r :: []) = (k r).run stL []) ∧ True
  | .ret a, l, h => by simp [PT.run] at h
  | .out, l, h => by simp [PT.run] at h
  | .ask y k, [], _ => ⟨k, fun r => rfl, trivial⟩
  | .ask y k, n :: l, h => by
    simp only [PT.run, stL] at h
    obtain ⟨k', hk, _⟩ := run_app m h
    exact ⟨k', fun r => by simp only [List.cons_append, PT.run, stL]; exact hk r, trivial⟩
/-- the tree behind a log -/
def PT.after {α : Type} : PT α → List Int → PT α
  | T, [] => T
  | .ask _ k, n :: l => (k n).after l
  | T, _ :: _ => T
theorem PT.after_snoc {α : Type} {x : Ask} {k : Int → PT α} (n : Int) : ∀ {T : PT α} {l : List Int}, T.after l = .ask x k → T.after (l ++ [n]) = k n
  | .ret a, [], h => by simp [PT.after] at h
  | .ret a, _ :: _, h => by simp [PT.after] at h
  | .out, [], h => by simp [PT.after] at h
  | .out, _ :: _, h => by simp [PT.after] at h
  | .ask y k', [], h => by
    simp only [PT.after, PT.ask.injEq] at h
    obtain ⟨rfl, rfl⟩ := h
    simp [PT.after]
  | .ask y k', m :: l, h => by
    simp only [PT.after] at h
    simpa [PT.after] using PT.after_snoc n h
theorem PT.run_after {α : Type} : ∀ {T : PT α} {l : List Int} {x : Ask} {k : Int → PT α}, T.after l = .ask x k → T.run stL l = .stop x
  | .ret a, [], _, _, h => by simp [PT.after] at h
  | .ret a, _ :: _, _, _, h => by simp [PT.after] at h
  | .out, [], _, _, h => by simp [PT.after] at h
  | .out, _ :: _, _, _, h => by simp [PT.after] at h
  | .ask y k', [], x, k, h => by
    simp only [PT.after, PT.ask.injEq] at h
    obtain ⟨rfl, rfl⟩ := h
    rfl
  | .ask y k', m :: l, x, k, h => by
    simp only [PT.after] at h
    simp only [PT.run, stL]
    exact PT.run_after h
/-- it has asked all that the log tells -/
def PT.Deep {α : Type} : PT α → List Int → Prop
  | _, [] => True
  | .ask _ k, n :: l => (k n).Deep l
  | _, _ :: _ => False
theorem PT.deep_snoc {α : Type} {x : Ask} {k : Int → PT α} (n : Int) : ∀ {T : PT α} {l : List Int}, T.Deep l → T.after l = .ask x k → T.Deep (l ++ [n])
  | .ret a, [], _, h => by simp [PT.after] at h
  | .ret a, _ :: _, hd, _ => hd.elim
  | .out, [], _, h => by simp [PT.after] at h
  | .out, _ :: _, hd, _ => hd.elim
  | .ask y k', [], _, h => by
    simp only [List.nil_append, PT.Deep]
  | .ask y k', m :: l, hd, h => by
    simp only [PT.after] at h
    exact PT.deep_snoc n (T := k' m) hd h
theorem PT.run_deep {α : Type} {a : α} : ∀ {T : PT α} {l : List Int}, T.Deep l → T.after l = .ret a → T.run stL l = .ret a []
  | .ret b, [], _, h => by simp only [PT.after, PT.ret.injEq] at h; subst h; rfl
  | .ret b, _ :: _, hd, _ => hd.elim
  | .out, [], _, h => by simp [PT.after] at h
  | .out, _ :: _, hd, _ => hd.elim
  | .ask y k', [], _, h => by simp [PT.after] at h
  | .ask y k', m :: l, hd, h => by
    simp only [PT.after] at h
    simp only [PT.run, stL]
    exact PT.run_deep (T := k' m) hd h
/-- what an operation asks next, or answers -/
inductive NextE where
  | stop (x : Acc)
  | done (o : OutN)
def NextE.fin : NextE → Ending
  | .stop x => .returned (.tuple #[.agg x.cells, .agg outZero, .bool false])
  | .done o => .returned (.tuple #[.agg accZero, .agg o.cells, .bool true])
def nextT (T : PT OutN) (ns : List Int) : NextE := match T.run stL ns with
  | .ret o _ => .done o
  | .stop x => .stop x.acc
  | .out => .done ⟨0, false, 0, 0⟩
/-- how many accesses a tree makes of a world, its answer, and the world then -/
inductive Goes {α : Type} (me : Int) : PT α → WldK → Nat → α → WldK → Prop where
  | ret (a : α) (X : WldK) : Goes me (.ret a) X 0 a X
  | ask {x : Ask} {k : Int → PT α} {X X' : WldK} {j : Nat} {a : α} (h : Goes me (k (doR X x.K false).N) (doK X me x.K false) j a X') : Goes me (.ask x k) X (j + 1) a X'
theorem Goes.run {α : Type} {me : Int} {T : PT α} {X X' : WldK} {j : Nat} {a : α} (h : Goes me T X j a X') : T.run (stX me) X = .ret a X' := by
  induction h with
  | ret => rfl
  | ask _ ih => exact ih
theorem Goes.bind {α β : Type} {me : Int} {T : PT α} {f : α → PT β} {X X1 X2 : WldK} {i j : Nat} {a : α} {b : β} (h : Goes me T X i a X1) (h2 : Goes me (f a) X1 j b X2) : Goes me (T.bind f) X (i + j) b X2 := by
  induction h with
  | ret => simpa [PT.bind] using h2
  | @ask x k X X' i a h ih =>
    have := Goes.ask (me := me) (x := x) (k := fun n => (k n).bind f) (ih h2)
    rw [show i + 1 + j = i + j + 1 by omega]
    exact this
/-- an operation that steps alone: the world behind it, its answer, and whether it ended within so many rounds -/
def aloneN (P : List Int → NextE) (me : Int) : Nat → WldK → List Int → WldK × OutN × Bool
  | 0, X, _ => (X, ⟨0, false, 0, 0⟩, false)
  | n + 1, X, ns => match P ns with
    | .done o => (X, o, true)
    | .stop x => aloneN P me n (doK X me ⟨x.kind, x.cell, x.a, x.b, [], []⟩ false) (ns ++ [(doR X ⟨x.kind, x.cell, x.a, x.b, [], []⟩ false).N])
theorem alone_goes {me : Int} {T0 T : PT OutN} {X X' : WldK} {j : Nat} {o : OutN} (h : Goes me T X j o X') : ∀ {P : List Int → NextE} {n : Nat} {ns : List Int}, (∀ l : List Int, l.length ≤ ns.length + j → P l = nextT T0 l) → T0.after ns = T → T0.Deep ns → j < n → aloneN P me n X ns = (X', o, true) := by
  induction h with
  | ret a X =>
    intro P n ns hP ha hd hn
    obtain ⟨n, rfl⟩ : ∃ m, n = m + 1 := ⟨n - 1, by omega⟩
    simp only [aloneN, hP ns (by omega), nextT, PT.run_deep hd ha]
  | @ask x k X X' j a h ih =>
    intro P n ns hP ha hd hn
    obtain ⟨n, rfl⟩ : ∃ m, n = m + 1 := ⟨n - 1, by omega⟩
    simp only [aloneN, hP ns (by omega), nextT, PT.run_after ha]
    exact ih (fun l hl => hP l (by simp at hl; omega)) (PT.after_snoc _ ha) (PT.deep_snoc _ hd ha) (by omega)
end Go.Proofs.Ytkdjmfaodojmfaa

namespace Go.Proofs.Ytkdjmfaodojmfaa
open Go.RowKit

/-! pool.Pop, pool.Push as trees. -/
def popT (t : Int) : Nat → PT Int
  | 0 => .out
  | f + 1 => .ask (askL 1) fun w => if firstF w = 0 then .ret 0 else .ask (askL (linkI t (firstF w))) fun n => .ask (askC 1 w (topN (firstF n) w)) fun c => if c = 1 then .ret (firstF w) else popT t f
def pushT (t r : Int) : Nat → PT Int
  | 0 => .out
  | f + 1 => .ask (askL 1) fun w => .ask (askS (linkI t r) (firstF w)) fun _ => .ask (askC 1 w (topN r w)) fun c => if c = 1 then .ret 0 else pushT t r f
def stM {α : Type} (num : α → Int) : List α → Ask → Option (Int × List α)
  | [], _ => none
  | n :: l, _ => some (num n, l)
theorem stL_eq : stL = stM (fun n => n) := by
  funext l x; cases l <;> rfl
theorem accL_eq (i : Int) : (askL i).acc = accL i := rfl
theorem accS_eq (i a : Int) : (askS i a).acc = accS i a := rfl
theorem accC_eq (i a b : Int) : (askC i a b).acc = accC i a b := rfl
theorem popN_run {α : Type} (num : α → Int) (t : Int) : ∀ (f : Nat) (l : List α) (k : Nat), l.length < f → match (popT t f).run (stM num) l with
    | .ret r l' => ∃ j, popN t k (l.map num) = .ret r (k + j) ∧ l' = l.drop j
    | .stop x => popN t k (l.map num) = .stop x.acc
    | .out => False
  | 0, l, k, h => by omega
  | f + 1, [], k, h => by simp [popT, PT.run, stM, popN, accL_eq]
  | f + 1, [w], k, h => by
    simp only [popT, PT.run, stM]
    by_cases h0 : firstF (num w) = 0
    · simp only [if_pos h0, PT.run, List.map_cons, List.map_nil, popN]
      exact ⟨1, rfl, rfl⟩
    · simp only [if_neg h0, PT.run, stM, List.map_cons, List.map_nil, popN, accL_eq]
  | f + 1, [w, n], k, h => by
    simp only [popT, PT.run, stM]
    by_cases h0 : firstF (num w) = 0
    · simp only [if_pos h0, PT.run, List.map_cons, List.map_nil, popN]
      exact ⟨1, rfl, rfl⟩
    · simp only [if_neg h0, PT.run, stM, List.map_cons, List.map_nil, popN, accC_eq]
  | f + 1, w :: n :: c :: l, k, h => by
    simp only [popT, PT.run, stM]
    by_cases h0 : firstF (num w) = 0
    · simp only [if_pos h0, PT.run, List.map_cons, popN]
      exact ⟨1, rfl, rfl⟩
    · by_cases h1 : num c = 1
      · simp only [if_neg h0, if_pos h1, PT.run, stM, List.map_cons, popN]
        exact ⟨3, rfl, rfl⟩
      · simp only [if_neg h0, if_neg h1, PT.run, stM, List.map_cons, popN]
        have ih := popN_run num t f l (k + 3) (by simp at h; omega)
        cases hr : (popT t f).run (stM num) l with
        | ret r l' =>
          rw [hr] at ih
          obtain ⟨j, h1, h2⟩ := ih
          exact ⟨3 + j, by rw [h1, Nat.add_assoc], by rw [h2, Nat.add_comm]; rfl⟩
        | stop x => rw [hr] at ih; exact ih
        | out => rw [hr] at ih; exact ih
theorem pushN_run {α : Type} (num : α → Int) (t u : Int) : ∀ (f : Nat) (l : List α) (k : Nat), l.length < f → match (pushT t u f).run (stM num) l with
    | .ret r l' => ∃ j, pushN t u k (l.map num) = .ret r (k + j) ∧ l' = l.drop j
    | .stop x => pushN t u k (l.map num) = .stop x.acc
    | .out => False
  | 0, l, k, h => by omega
  | f + 1, [], k, h => by simp [pushT, PT.run, stM, pushN, accL_eq]
  | f + 1, [w], k, h => by simp only [pushT, PT.run, stM, List.map_cons, List.map_nil, pushN, accS_eq]
  | f + 1, [w, n], k, h => by simp only [pushT, PT.run, stM, List.map_cons, List.map_nil, pushN, accC_eq]
  | f + 1, w :: n :: c :: l, k, h => by
    simp only [pushT, PT.run, stM]
    by_cases h1 : num c = 1
    · simp only [if_pos h1, PT.run, List.map_cons, pushN]
      exact ⟨3, rfl, rfl⟩
    · simp only [if_neg h1, List.map_cons, pushN]
      have ih := pushN_run num t u f l (k + 3) (by simp at h; omega)
      cases hr : (pushT t u f).run (stM num) l with
      | ret r l' =>
        rw [hr] at ih
        obtain ⟨j, h1, h2⟩ := ih
        exact ⟨3 + j, by rw [h1, Nat.add_assoc], by rw [h2, Nat.add_comm]; rfl⟩
      | stop x => rw [hr] at ih; exact ih
      | out => rw [hr] at ih; exact ih
theorem popT_ok (t : Int) : ∀ f, (popT t f).Ok
  | 0 => trivial
  | f + 1 => ⟨askL_ok _, fun w hw => by
    show PT.Ok (ite _ _ _)
    split
    · trivial
    · exact ⟨askL_ok _, fun n _ => ⟨askC_ok _ hw (top_u64 _ _), fun c _ => by
        show PT.Ok (ite _ _ _)
        split
        · trivial
        · exact popT_ok t f⟩⟩⟩
theorem pushT_ok (t r : Int) : ∀ f, (pushT t r f).Ok
  | 0 => trivial
  | f + 1 => ⟨askL_ok _, fun w hw => ⟨askS_ok _ (by have := hw.1; have := hw.2; unfold firstF U64; omega), fun n _ => ⟨askC_ok _ hw (top_u64 _ _), fun c _ => by
        show PT.Ok (ite _ _ _)
        split
        · trivial
        · exact pushT_ok t r f⟩⟩⟩
/-- what an operation of records does -/
def poolT (t kind u : Int) (f : Nat) : PT OutN :=
  if kind = 1 then (popT t f).bind fun r => .ret ⟨0, false, r, 0⟩
  else if kind = 2 then (pushT t u f).bind fun _ => .ret ⟨0, false, 0, 0⟩
  else .ret ⟨1, false, 0, 0⟩
theorem poolT_ok (t kind u : Int) (f : Nat) : (poolT t kind u f).Ok := by
  unfold poolT
  split
  · exact (popT_ok t f).bind fun _ => trivial
  · split
    · exact (pushT_ok t u f).bind fun _ => trivial
    · trivial
def poolN (t kind u : Int) (ns : List Int) : NextE :=
  if kind = 1 then (match popN t 0 ns with | .stop x => .stop x | .ret r _ => .done ⟨0, false, r, 0⟩)
  else if kind = 2 then (match pushN t u 0 ns with | .stop x => .stop x | .ret _ _ => .done ⟨0, false, 0, 0⟩)
  else .done ⟨1, false, 0, 0⟩
theorem poolN_eq (t kind u : Int) (f : Nat) (ns : List Int) (h : ns.length < f) : poolN t kind u ns = nextT (poolT t kind u f) ns := by
  have e : ns.map (fun n => n) = ns := List.map_id' ns
  unfold poolN poolT nextT
  by_cases h1 : kind = 1
  · simp only [if_pos h1]
    have hr := popN_run (fun n => n) t f ns 0 h
    rw [e, ← stL_eq] at hr
    rw [PT.run_bind]
    cases hq : (popT t f).run stL ns with
    | ret r l' => rw [hq] at hr; obtain ⟨j, h2, -⟩ := hr; simp only [h2, PT.run]
    | stop x => rw [hq] at hr; simp only [hr]
    | out => rw [hq] at hr; exact hr.elim
  · by_cases h2 : kind = 2
    · simp only [if_neg h1, if_pos h2]
      have hr := pushN_run (fun n => n) t u f ns 0 h
      rw [e, ← stL_eq] at hr
      rw [PT.run_bind]
      cases hq : (pushT t u f).run stL ns with
      | ret r l' => rw [hq] at hr; obtain ⟨j, h2, -⟩ := hr; simp only [h2, PT.run]
      | stop x => rw [hq] at hr; simp only [hr]
      | out => rw [hq] at hr; exact hr.elim
    · simp only [if_neg h1, if_neg h2, PT.run]
end Go.Proofs.Ytkdjmfaodojmfaa

namespace Go.Proofs.Ytkdjmfaodojmfaa
open Go.ChangeShapes Go.WideShapes Go.ChangeAt Go.RowKit

/-! A law's row out of a contract: it returns true, and below the heap's old size nothing has turned. -/
section
variable {H : Type} {enc : TypeId × Value → H} {P : Program}
theorem trodAll_below (hl : laidOutB P = true) {W W' : World} (hb : Below W.heap.size W W') :
    ∀ (ts : List TypeId) (vs : List Value) (ds : List (DataW H)) (ps : List MemPlace), (∀ t ∈ ts, P.readableRec t = true ∧ t < P.types.size) →
      DataW.TrodAll enc P W 0 (fun _ => true) true ts vs ds ps → (∀ x ∈ ps, x.block < W.heap.size) → DataW.TrodAll enc P W' 0 (fun b => decide (b < W.heap.size)) true ts vs ds ps
  | [], [], [], _, _, h, _ => h
  | t :: ts, v :: vs, d :: ds, ps, hr, h, hlt => by
    obtain ⟨p, q, h1, h2, rfl⟩ := h
    obtain ⟨hr1, hr2⟩ := hr t (by simp)
    exact ⟨p, q, Below.trod hl hr1 hr2 h1 hb (fun x hx => hlt x (by simp [hx])),
      trodAll_below hl hb ts vs ds q (fun u hu => hr u (by simp [hu])) h2 (fun x hx => hlt x (by simp [hx])), rfl⟩
  | [], [], _ :: _, _, _, h, _ => by cases h
  | [], _ :: _, _, _, _, h, _ => by cases h
  | _ :: _, [], _, _, _, h, _ => by cases h
  | _ :: _, _ :: _, [], _, _, h, _ => by cases h
end
set_option maxRecDepth 1000000 in
theorem own : ownKnob Try.prog.godebug = none := by kernel_rfl
set_option maxRecDepth 1000000 in
theorem laid : laidOutB Try.prog = true := by kernel_rfl

set_option maxRecDepth 1000000 in
theorem law_row (os : Os) (started : os.Started) (H : Type) (enc : TypeId × Value → H) {f : FuncId} {F : Func} (spec : ChangeSpec)
    (hv : spec.vars = []) (hspec : ∀ ds : List (DataW H), ds.length = F.params.toList.length → spec.fn H (ds ++ []) = { results := [.lit (.bool true)], args := ds })
    (hnoinit : Try.checked.prog.inits.idxOf? f = none) (hfn : Try.checked.prog.funcs[f]? = some F) (hres : F.resultTypes = #[4])
    (hread : ∀ t ∈ F.params.toList, Try.prog.readableRec t = true ∧ t < Try.prog.types.size)
    (witness : ∃ (w : World) (tape : Tape) (i : Input), w.os = os ∧ (w.forCall tape i).Shaped Try.checked.prog ∧ i.vars = [] ∧ Input.okWide Try.checked.prog (w.forCall tape i) .any w.heap.size f i ∧
      spec.pre6 enc Try.checked.prog F [] false (w.forCall tape i).memory i.args ∧ ({} : Assume).holds Try.checked.prog (lone (Frame.enter Try.checked.prog f i.args .normal) [] (w.forCall tape i)))
    (walk : ∀ (W : World) (base : Nat) (args : Array Value) (ds : List (DataW H)) (ps : List MemPlace),
      (∀ (j : Nat) t v, F.params[j]? = some t → args[j]? = some v → Value.okWide Try.prog W .any base t v) →
      DataW.TrodAll enc Try.prog W 0 (fun _ => true) true F.params.toList args.toList ds ps →
      (∀ x ∈ ps, x.block < W.heap.size) →
      Calls Try.prog f args W fun e W' => e = .returned (.bool true) ∧ Below W.heap.size W W') :
    ReturnsInHanded {} Try.checked os f .any (spec.pre6 enc Try.prog F [] false) (spec.post enc Try.prog F false true false false) := by
  refine returnsInHanded_of_change (C := Try.checked) own started hnoinit hfn witness ?_
  intro W base args ds gs before hval hW _ _
  have hW' := hW
  have hlt : ∀ x ∈ before, x.block < W.heap.size := fun x hx => hW'.lt x hx
  obtain ⟨p, q, hA, hV, rfl, hfz, hnd⟩ := hW
  rw [hv] at hV
  obtain ⟨rfl, rfl⟩ := trodVars_none hV
  have hlen : ds.length = F.params.toList.length := by
    have : ∀ (ts : List TypeId) (vs : List Value) (ds : List (DataW H)) (ps : List MemPlace), DataW.TrodAll enc Try.checked.prog W 0 (fun _ => true) true ts vs ds ps → ds.length = ts.length := by
      intro ts
      induction ts with
      | nil => intro vs ds ps h; obtain ⟨_, rfl, _⟩ := trodAll_nil h; rfl
      | cons t ts ih => intro vs ds ps h; obtain ⟨v, vs', d, ds', p, q, rfl, rfl, rfl, _, h2⟩ := trodAll_cons h; simp [ih _ _ _ h2]
    exact this _ _ _ _ hA
  refine (walk W base args ds p hval hA (fun x hx => hlt x (by simp [hx]))).mono fun e W' ⟨he, hb⟩ => ?_
  subst he
  refine ⟨_, rfl, ds, [], p ++ [], [], p, [], hW', ?_, ?_, ?_, hb.frame _, fun h => by cases h⟩
  · rw [hspec ds hlen, hres]
    exact trodAll_mk1 (shut_bool Try.underlying4 true)
  · rw [hspec ds hlen]
    exact trodAll_below laid hb _ _ _ _ hread hA (fun x hx => hlt x (by simp [hx]))
  · rw [hv, hspec ds hlen]
    rfl
theorem wf_u64 {n : Int} (h : (Lit.int .u64 n).wf = true) : 0 ≤ n ∧ n < 18446744073709551616 := by
  simp [Lit.wf, IntKind.min, IntKind.max, IntKind.signed, IntKind.bits] at h; omega
theorem wf_u8 {n : Int} (h : (Lit.int .u8 n).wf = true) : 0 ≤ n ∧ n < 256 := by
  simp [Lit.wf, IntKind.min, IntKind.max, IntKind.signed, IntKind.bits] at h; omega
theorem wf_i64' {n : Int} (h : (Lit.int .i64 n).wf = true) : -9223372036854775808 ≤ n ∧ n ≤ 9223372036854775807 := by
  simp [Lit.wf, IntKind.min, IntKind.max, IntKind.signed, IntKind.bits] at h; omega
theorem wf_u16 {n : Int} (h : (Lit.int .u16 n).wf = true) : 0 ≤ n ∧ n < 65536 := by
  simp [Lit.wf, IntKind.min, IntKind.max, IntKind.signed, IntKind.bits] at h; omega
end Go.Proofs.Ytkdjmfaodojmfaa

namespace Go.Proofs.Ytkdjmfaodojmfaa
open Go.Joins Go.ChangeShapes Go.WideShapes Go.RowKit

/-! A struct by value, whatever its fields: its cells, and each field's reading. -/
section
variable {H : Type} {enc : TypeId × Value → H} {P : Program} {w : World} {base : Nat} {spare : Nat → Bool} {held : Bool}
theorem open_struct {r : Reach} {b0 : Nat} {t : TypeId} {fs : Array Field} {v : Value} {d : DataW H} {p : List MemPlace} (hs : P.underlying t = some (.struct fs))
    (hv : Value.okWide P w r b0 t v) (h : DataW.Trod enc P w base spare held t v d p) :
    ∃ (l : List Value) (xs : List (DataW H × List MemPlace)) (n : Nat), v = .agg l.toArray ∧ l.length = P.cellsOf t ∧ d = .agg (xs.map (·.1)) ∧ p = xs.flatMap (·.2) ∧ xs.length = fs.size ∧
      ∀ (j : Nat) (f : Field), fs[j]? = some f → ∃ y, xs[j]? = some y ∧ DataW.trod enc P w base spare held n f.type ((l.drop f.offset).take (P.cellsOf f.type)) = some y := by
  obtain ⟨cs, rfl, hsz⟩ := okWide_struct hs hv
  obtain ⟨fuel, hf⟩ := h
  obtain ⟨xs, n, _, hx, _, hlen, hg⟩ := DataW.trod_struct hs hf
  simp only [Prod.mk.injEq] at hx
  refine ⟨cs.toList, xs, n, by simp, by simpa using hsz, hx.1, hx.2, hlen, fun j f hj => ?_⟩
  have hjl : j < xs.length := by rw [hlen]; exact (Array.getElem?_eq_some_iff.1 hj).1
  have h1 := hg j f hj
  rw [List.getElem?_eq_getElem hjl] at h1
  exact ⟨xs[j], List.getElem?_eq_getElem hjl, by simpa [Value.cells] using h1⟩
/-- a struct within cells -/
theorem open_inner {t : TypeId} {fs : Array Field} {fuel : Nat} {cs : List Value} {x : DataW H × List MemPlace} (hs : P.underlying t = some (.struct fs)) (h : DataW.trod enc P w base spare held fuel t cs = some x) :
    ∃ n, ∀ (j : Nat) (f : Field), fs[j]? = some f → ∃ y, DataW.trod enc P w base spare held n f.type ((cs.drop f.offset).take (P.cellsOf f.type)) = some y := by
  obtain ⟨xs, n, _, _, _, hlen, hg⟩ := DataW.trod_struct hs h
  refine ⟨n, fun j f hj => ?_⟩
  have hjl : j < xs.length := by rw [hlen]; exact (Array.getElem?_eq_some_iff.1 hj).1
  have h1 := hg j f hj
  rw [List.getElem?_eq_getElem hjl] at h1
  exact ⟨xs[j], h1⟩
end
theorem list_six {l : List Value} (h : l.length = 6) : ∃ a b c d e f, l = [a, b, c, d, e, f] := by
  match l, h with
  | [a, b, c, d, e, f], _ => exact ⟨a, b, c, d, e, f, rfl⟩
theorem list_five {l : List Value} (h : l.length = 5) : ∃ a b c d e, l = [a, b, c, d, e] := by
  match l, h with
  | [a, b, c, d, e], _ => exact ⟨a, b, c, d, e, rfl⟩
theorem list_two {l : List Value} (h : l.length = 2) : ∃ a b, l = [a, b] := by
  match l, h with
  | [a, b], _ => exact ⟨a, b, rfl⟩
end Go.Proofs.Ytkdjmfaodojmfaa

namespace Go.Proofs.Ytkdjmfaodojmfaa
open Go.ChangeShapes Go.WideShapes Go.ChangeAt Go.RowKit
theorem cellsStream : Try.prog.cellsOf 118 = 2 := by kernel_rfl
theorem cellsBytes : Try.prog.cellsOf 30 = 1 := by kernel_rfl
theorem cellsIntS : Try.prog.cellsOf 3 = 1 := by kernel_rfl
theorem cellsU8S : Try.prog.cellsOf 5 = 1 := by kernel_rfl
section
variable {H : Type} {enc : TypeId × Value → H} {w : World} {base : Nat}
set_option maxRecDepth 100000 in
/-- a slice of bytes that came in -/
theorem open_bytes {fuel : Nat} {cs : List Value} {x : DataW H × List MemPlace} (h : DataW.trod enc Try.prog w base (fun _ => true) true fuel 30 cs = some x) :
    ∃ A n c d, cs = [.slice A n c] ∧ BytesV w A n c d := by
  rcases open_ints Try.underlying30 Try.underlying5 cellsU8S h with ⟨hcs, hx⟩ | ⟨a, len, cap, zs, hcs, hb, hl, hm, hz, hx, hcell, hwz⟩
  · exact ⟨none, 0, 0, [], hcs, rfl, Nat.le_refl _, Nat.zero_le _, fun _ => rfl, Cells.nil _ _⟩
  · have hzl : zs.length = cap := by simpa using hz
    have hbytes : bytesOf ((zs.take len).map fun z => UInt8.ofNat z.toNat) = (zs.take len).map (Value.int .u8) := by
      unfold bytesOf
      rw [List.map_map]
      refine List.map_congr_left fun z hz' => ?_
      have := wf_u8 (hwz z (List.mem_of_mem_take hz'))
      simp only [Function.comp, UInt8.toNat_ofNat']
      congr 1
      omega
    refine ⟨some a, len, cap, (zs.take len).map (fun z => UInt8.ofNat z.toNat), hcs, ⟨by rw [List.length_map, List.length_take]; omega, hl, hm, (by intro h; cases h), ?_⟩⟩
    rw [hbytes]
    refine fun _ => ⟨a, rfl, fun j u hu => ?_⟩
    rw [List.getElem?_map] at hu
    obtain ⟨z, hz', rfl⟩ := Option.map_eq_some_iff.1 hu
    rw [List.getElem?_take] at hz'
    split at hz'
    · rename_i hj
      rw [hcell j (by omega)]
      simp [List.getD, hz']
    · cases hz'
set_option maxRecDepth 100000 in
/-- a stream that came in -/
theorem open_stream {b0 : Nat} {v : Value} {d : DataW H} {p : List MemPlace} (hv : Value.okWide Try.prog w .any b0 118 v) (h : DataW.Trod enc Try.prog w base (fun _ => true) true 118 v d p) :
    ∃ A n c k l, v = .agg #[.slice A n c, .int .i64 k] ∧ BytesV w A n c l ∧ (Lit.int .i64 k).wf = true := by
  obtain ⟨l, xs, m, rfl, hl, rfl, _, _, hf⟩ := open_struct Try.underlying118 hv h
  rw [cellsStream] at hl
  obtain ⟨x0, x1, rfl⟩ := list_two hl
  obtain ⟨_, _, t0⟩ := hf 0 _ rfl
  obtain ⟨_, _, t1⟩ := hf 1 _ rfl
  obtain ⟨k, e1, _, w1⟩ := DataW.trod_int Try.underlying3 t1
  obtain ⟨A, n, c, l, e0, hV⟩ := open_bytes t0
  simp [cellsBytes, cellsIntS] at e0 e1
  subst e0 e1
  exact ⟨A, n, c, k, l, rfl, hV, w1⟩
set_option maxRecDepth 100000 in
theorem open_bytes1 {b0 : Nat} {v : Value} {d : DataW H} {p : List MemPlace} (hv : Value.okWide Try.prog w .any b0 30 v) (h : DataW.Trod enc Try.prog w base (fun _ => true) true 30 v d p) :
    ∃ A n c l, v = .slice A n c ∧ BytesV w A n c l := by
  obtain ⟨A0, n0, c0, rfl⟩ := okWide_slice Try.underlying30 hv
  obtain ⟨fuel, hf⟩ := h
  obtain ⟨A, n, c, l, e, hV⟩ := open_bytes hf
  simp [Value.cells] at e
  obtain ⟨rfl, rfl, rfl⟩ := e
  exact ⟨A0, n0, c0, l, rfl, hV⟩
end
end Go.Proofs.Ytkdjmfaodojmfaa

namespace Go.Proofs.Ytkdjmfaodojmfaa
open Go.ChangeShapes Go.WideShapes Go.ChangeAt Go.RowKit

/-! Rows of words that came in. -/
theorem cellsU64S : Try.prog.cellsOf 22 = 1 := by kernel_rfl
theorem cellsWordsS : Try.prog.cellsOf 31 = 1 := by kernel_rfl
theorem cellsBoolS : Try.prog.cellsOf 4 = 1 := by kernel_rfl
theorem list_three {l : List Value} (h : l.length = 3) : ∃ a b c, l = [a, b, c] := by
  match l, h with
  | [a, b, c], _ => exact ⟨a, b, c, rfl⟩
section
variable {H : Type} {enc : TypeId × Value → H} {w : World} {base : Nat}
theorem open_words {fuel : Nat} {cs : List Value} {x : DataW H × List MemPlace} (h : DataW.trod enc Try.prog w base (fun _ => true) true fuel 31 cs = some x) :
    ∃ A n c d, cs = [.slice A n c] ∧ WordsV w A n c d := by
  rcases open_ints Try.underlying31 Try.underlying22 cellsU64S h with ⟨hcs, hx⟩ | ⟨a, len, cap, zs, hcs, hb, hl, hm, hz, hx, hcell, hwz⟩
  · exact ⟨none, 0, 0, [], hcs, words_nil w⟩
  · have hzl : zs.length = cap := by simpa using hz
    refine ⟨some a, len, cap, zs.take len, hcs, ⟨by rw [List.length_take]; omega, hl, hm, (by intro h; cases h), ?_, fun z hz' => wf_u64 (hwz z (List.mem_of_mem_take hz'))⟩⟩
    refine fun _ => ⟨a, rfl, fun j u hu => ?_⟩
    unfold wordsOf at hu
    rw [List.getElem?_map] at hu
    obtain ⟨z, hz', rfl⟩ := Option.map_eq_some_iff.1 hu
    rw [List.getElem?_take] at hz'
    split at hz'
    · rename_i hj
      rw [hcell j (by omega)]
      simp [List.getD, hz']
    · cases hz'
end
end Go.Proofs.Ytkdjmfaodojmfaa

namespace Go.Proofs.Ytkdjmfaodojmfaa
open Go.ChangeShapes Go.WideShapes Go.ChangeAt Go.RowKit

/-! Disks that came in. -/
theorem cellsU8E : Try.prog.cellsOf 5 = 1 := by kernel_rfl
theorem cellsU64E : Try.prog.cellsOf 22 = 1 := by kernel_rfl
theorem cellsRowE : Try.prog.cellsOf 46 = 1 := by kernel_rfl
theorem cellsRowsE : Try.prog.cellsOf 47 = 2 := by kernel_rfl
theorem cellsDiskE : Try.prog.cellsOf 49 = 3 := by kernel_rfl
section
variable {H : Type} {enc : TypeId × Value → H} {w : World} {base : Nat}
set_option maxRecDepth 100000 in
theorem open_row {fuel : Nat} {cs : List Value} {x : DataW H × List MemPlace} (h : DataW.trod enc Try.prog w base (fun _ => true) true fuel 46 cs = some x) :
    ∃ A n c l, cs = [.slice A n c] ∧ RowV w A n c l := by
  obtain ⟨A, n, c, m, e, hn, hc, hA, hi⟩ := open_slice Try.underlying46 h
  rw [cellsStream] at hi
  obtain ⟨l, hl, hp⟩ := list_choose (n := n) (p := fun i (s : St) => (∃ a, A = some a ∧ w.cell? (a.add (i * 2)) = some (.slice s.D s.q s.cd) ∧ w.cell? (a.add (i * 2 + 1)) = some (.int .i64 s.k)) ∧ StOK w s) (fun i hlt => by
    obtain ⟨a, l, y, ha, hlen, hcell, ht⟩ := hi i hlt
    obtain ⟨x0, x1, rfl⟩ := list_two hlen
    obtain ⟨k, hg⟩ := open_inner Try.underlying118 ht
    obtain ⟨_, s0⟩ := hg 0 _ rfl
    obtain ⟨_, s1⟩ := hg 1 _ rfl
    obtain ⟨D, q, cd, d, e0, hD⟩ := open_bytes s0
    obtain ⟨z, e1, _, w1⟩ := DataW.trod_int Try.underlying3 s1
    simp [cellsBytes, cellsIntS] at e0 e1
    subst e0 e1
    exact ⟨⟨D, q, cd, z, d⟩, ⟨a, ha, by simpa using hcell 0 _ rfl, by simpa using hcell 1 _ rfl⟩, hD⟩)
  refine ⟨A, n, c, l, e, hl, hn, hc, hA, ?_, fun s hs => ?_⟩
  · intro hne
    have hpos : 0 < l.length := by
      rcases Nat.eq_zero_or_pos l.length with h0 | h0
      · rw [List.eq_nil_of_length_eq_zero h0] at hne; exact absurd rfl hne
      · exact h0
    obtain ⟨⟨a, ha, -⟩, -⟩ := hp 0 l[0] (List.getElem?_eq_getElem _)
    refine ⟨a, ha, fun i u hu => ?_⟩
    have hil : i < l.length * 2 := by rw [← rowCells_length]; exact (List.getElem?_eq_some_iff.1 hu).1
    have hj : i / 2 < l.length := by omega
    obtain ⟨⟨b, hb, b0, b1⟩, -⟩ := hp (i / 2) l[i / 2] (List.getElem?_eq_getElem _)
    obtain rfl : a = b := Option.some.inj (ha.symm.trans hb)
    obtain ⟨r0, r1⟩ := rowCells_at (List.getElem?_eq_getElem hj)
    rcases Nat.mod_two_eq_zero_or_one i with hm | hm
    · have ei : i / 2 * 2 = i := by omega
      rw [ei] at r0 b0
      rw [r0] at hu
      cases hu
      exact b0
    · have ei : i / 2 * 2 + 1 = i := by omega
      rw [ei] at r1 b1
      rw [r1] at hu
      cases hu
      exact b1
  · obtain ⟨i, hi'⟩ := List.getElem?_of_mem hs
    exact (hp i s hi').2
set_option maxRecDepth 100000 in
theorem open_intsv7 {fuel : Nat} {cs : List Value} {x : DataW H × List MemPlace} (h : DataW.trod enc Try.prog w base (fun _ => true) true fuel 35 cs = some x) :
    ∃ A n c ms, cs = [.slice A n c] ∧ IntsV w A n c ms := by
  rcases open_ints Try.underlying35 Try.underlying3 cellsIntS h with ⟨hcs, hx⟩ | ⟨a, len, cap, zs, hcs, hb, hl, hm, hz, hx, hcell, hwz⟩
  · exact ⟨none, 0, 0, [], hcs, ints_nil w⟩
  · have hzl : zs.length = cap := by simpa using hz
    refine ⟨some a, len, cap, zs.take len, hcs, by rw [List.length_take]; omega, hl, fun j z hj => ⟨a, rfl, ?_⟩⟩
    rw [List.getElem?_take] at hj
    split at hj
    · rw [hcell j (by omega)]
      simp [List.getD, hj]
    · cases hj
set_option maxRecDepth 100000 in
theorem open_disk {fuel : Nat} {cs : List Value} {x : DataW H × List MemPlace} (hl : cs.length = 3) (h : DataW.trod enc Try.prog w base (fun _ => true) true fuel 49 cs = some x) :
    ∃ (R : Int) (A0 A1 : Option Addr) (n0 c0 n1 c1 : Nat) (l0 l1 : List St), cs = [.int .u64 R, .slice A0 n0 c0, .slice A1 n1 c1] ∧ RowV w A0 n0 c0 l0 ∧ RowV w A1 n1 c1 l1 ∧ (0 ≤ R ∧ R < 18446744073709551616) := by
  match cs, hl with
  | [x0, x1, x2], _ =>
  obtain ⟨k, hg⟩ := open_inner Try.underlying49 h
  obtain ⟨_, s0⟩ := hg 0 _ rfl
  obtain ⟨_, s1⟩ := hg 1 _ rfl
  obtain ⟨R, e0, _, w0⟩ := DataW.trod_int Try.underlying22 s0
  obtain ⟨ys, m, _, _, _, hlen, hi⟩ := DataW.trod_array Try.underlying47 s1
  have t0 := hi 0 (by omega)
  have t1 := hi 1 (by omega)
  rw [List.getElem?_eq_getElem (by omega)] at t0 t1
  obtain ⟨A0, n0, c0, l0, e1, h0⟩ := open_row t0
  obtain ⟨A1, n1, c1, l1, e2, h1⟩ := open_row t1
  simp [cellsU64E, cellsRowE, cellsRowsE] at e0 e1 e2
  subst e0 e1 e2
  exact ⟨R, A0, A1, n0, c0, n1, c1, l0, l1, rfl, h0, h1, wf_u64 w0⟩
end
end Go.Proofs.Ytkdjmfaodojmfaa

namespace Go.Proofs.Ytkdjmfaodojmfaa
open Go.ChangeShapes Go.WideShapes Go.ChangeAt Go.RowKit

/-! What came in is no longer than the form allows. -/
section
variable {H : Type} {enc : TypeId × Value → H} {P : Program}
theorem weights_all_mem {e : TypeId} : ∀ {ds : List (DataW H)} {d : DataW H}, d ∈ ds → ∀ n ∈ d.weights P e, n ∈ DataW.weightsAll P e ds
  | x :: ds, d, hd, n, hn => by
    simp only [DataW.weightsAll, List.mem_append]
    rcases List.mem_cons.1 hd with rfl | hd
    · exact .inl hn
    · exact .inr (weights_all_mem hd n hn)
/-- no slice or string within is longer -/
def Light (P : Program) (t : TypeId) (d : DataW H) : Prop := ∀ n ∈ d.weights P t, n ≤ reachBytes
section
variable {w : World} {base : Nat} {spare : Nat → Bool} {held : Bool}
theorem open_slice_w {t e : TypeId} {fuel : Nat} {cs : List Value} {x : DataW H × List MemPlace} (ht : P.underlying t = some (.slice e)) (h : DataW.trod enc P w base spare held fuel t cs = some x) (hL : Light P t x.1) :
    ∃ (A : Option Addr) (n c m : Nat), cs = [.slice A n c] ∧ n ≤ c ∧ c ≤ maxLen ∧ (A = none → c = 0) ∧
      ∀ i, i < n → ∃ a l y, A = some a ∧ l.length = P.cellsOf e ∧ (∀ j u, l[j]? = some u → w.cell? (a.add (i * P.cellsOf e + j)) = some u) ∧ DataW.trod enc P w base spare held m e l = some y ∧ Light P e y.1 := by
  rcases DataW.trod_slice ht h with ⟨rfl, _⟩ | ⟨a, len, cap, elems, rest, n, _, rfl, rfl, hb, hl, hm, hlen, hel, _, _⟩
  · exact ⟨none, 0, 0, 0, rfl, Nat.le_refl _, Nat.zero_le _, fun _ => rfl, fun i hi => by omega⟩
  · refine ⟨some a, len, cap, n, rfl, hl, hm, (by intro h; cases h), fun i hi => ?_⟩
    have h1 := hel i hi
    rw [List.getElem?_eq_getElem (by omega)] at h1
    obtain ⟨cs', hcs, hy⟩ := Option.bind_eq_some_iff.1 h1
    have h2 := World.cells?_some hcs
    refine ⟨a, cs', elems[i]'(by omega), rfl, h2.2.1, fun j u hu => ?_, hy, fun k hk => hL k ?_⟩
    · have hj : j < cs'.length := (List.getElem?_eq_some_iff.1 hu).1
      have := h2.2.2 j (by rw [← h2.2.1]; exact hj)
      rw [addr_add_add] at this
      rw [this]
      exact hu
    · simp only [DataW.weights, ht, List.mem_cons, List.mem_append]
      exact .inr (.inl (weights_all_mem (List.mem_map_of_mem (List.getElem_mem (by omega))) k hk))
theorem open_inner_w {t : TypeId} {fs : Array Field} {fuel : Nat} {cs : List Value} {x : DataW H × List MemPlace} (hs : P.underlying t = some (.struct fs)) (h : DataW.trod enc P w base spare held fuel t cs = some x) (hL : Light P t x.1) :
    ∃ n, ∀ (j : Nat) (f : Field), fs[j]? = some f → ∃ y, DataW.trod enc P w base spare held n f.type ((cs.drop f.offset).take (P.cellsOf f.type)) = some y ∧ Light P f.type y.1 := by
  obtain ⟨xs, n, _, hx, _, hlen, hg⟩ := DataW.trod_struct hs h
  refine ⟨n, fun j f hj => ?_⟩
  have hjl : j < xs.length := by rw [hlen]; exact (Array.getElem?_eq_some_iff.1 hj).1
  have h1 := hg j f hj
  rw [List.getElem?_eq_getElem hjl] at h1
  refine ⟨xs[j], h1, fun k hk => hL k ?_⟩
  rw [hx]
  simp only [DataW.weights, hs]
  exact DataW.weights_mem_each (j := j) (t := f.type) (d := xs[j].1) (by rw [List.getElem?_map, Array.getElem?_toList, hj]; rfl) (by simp [hjl]) k hk
end
end
theorem bytesU8 : Try.prog.bytesOf 5 = 1 := by kernel_rfl
section
variable {H : Type} {enc : TypeId × Value → H} {w : World} {base : Nat}
set_option maxRecDepth 100000 in
theorem open_bytes_w {fuel : Nat} {cs : List Value} {x : DataW H × List MemPlace} (h : DataW.trod enc Try.prog w base (fun _ => true) true fuel 30 cs = some x) (hL : Light Try.prog 30 x.1) :
    ∃ A n c d, cs = [.slice A n c] ∧ BytesV w A n c d ∧ n ≤ 140737488351232 := by
  obtain ⟨A, n, c, d, e, hV⟩ := open_bytes h
  refine ⟨A, n, c, d, e, hV, ?_⟩
  rcases DataW.trod_slice Try.underlying30 h with ⟨rfl, _⟩ | ⟨a, len, cap, elems, rest, m, _, rfl, rfl, hb, hl, hm, hlen, hel, _, _⟩
  · simp at e
    obtain ⟨rfl, rfl, rfl⟩ := e
    exact Nat.zero_le _
  · simp at e
    obtain ⟨rfl, rfl, rfl⟩ := e
    have := hL ((elems.length + rest.length) * Try.prog.bytesOf 5) (by
      simp only [DataW.weights, Try.underlying30]
      simp)
    rw [bytesU8, hlen] at this
    simp only [reachBytes] at this
    omega
set_option maxRecDepth 100000 in
theorem open_row_w {fuel : Nat} {cs : List Value} {x : DataW H × List MemPlace} (h : DataW.trod enc Try.prog w base (fun _ => true) true fuel 46 cs = some x) (hL : Light Try.prog 46 x.1) :
    ∃ A n c l, cs = [.slice A n c] ∧ RowV w A n c l ∧ ∀ s ∈ l, s.q ≤ 140737488351232 := by
  obtain ⟨A, n, c, m, e, hn, hc, hA, hi⟩ := open_slice_w Try.underlying46 h hL
  rw [cellsStream] at hi
  obtain ⟨l, hl, hp⟩ := list_choose (n := n) (p := fun i (s : St) => (∃ a, A = some a ∧ w.cell? (a.add (i * 2)) = some (.slice s.D s.q s.cd) ∧ w.cell? (a.add (i * 2 + 1)) = some (.int .i64 s.k)) ∧ StOK w s ∧ s.q ≤ 140737488351232) (fun i hlt => by
    obtain ⟨a, l, y, ha, hlen, hcell, ht, hy⟩ := hi i hlt
    obtain ⟨x0, x1, rfl⟩ := list_two hlen
    obtain ⟨k, hg⟩ := open_inner_w Try.underlying118 ht hy
    obtain ⟨_, s0, hy0⟩ := hg 0 _ rfl
    obtain ⟨_, s1, -⟩ := hg 1 _ rfl
    obtain ⟨D, q, cd, d, e0, hD, hq⟩ := open_bytes_w s0 hy0
    obtain ⟨z, e1, _, w1⟩ := DataW.trod_int Try.underlying3 s1
    simp [cellsBytes, cellsIntS] at e0 e1
    subst e0 e1
    exact ⟨⟨D, q, cd, z, d⟩, ⟨a, ha, by simpa using hcell 0 _ rfl, by simpa using hcell 1 _ rfl⟩, hD, hq⟩)
  refine ⟨A, n, c, l, e, ⟨hl, hn, hc, hA, ?_, fun s hs => ?_⟩, fun s hs => ?_⟩
  · intro hne
    have hpos : 0 < l.length := by
      rcases Nat.eq_zero_or_pos l.length with h0 | h0
      · rw [List.eq_nil_of_length_eq_zero h0] at hne; exact absurd rfl hne
      · exact h0
    obtain ⟨⟨a, ha, -⟩, -⟩ := hp 0 l[0] (List.getElem?_eq_getElem _)
    refine ⟨a, ha, fun i u hu => ?_⟩
    have hil : i < l.length * 2 := by rw [← rowCells_length]; exact (List.getElem?_eq_some_iff.1 hu).1
    have hj : i / 2 < l.length := by omega
    obtain ⟨⟨b, hb, b0, b1⟩, -⟩ := hp (i / 2) l[i / 2] (List.getElem?_eq_getElem _)
    obtain rfl : a = b := Option.some.inj (ha.symm.trans hb)
    obtain ⟨r0, r1⟩ := rowCells_at (List.getElem?_eq_getElem hj)
    rcases Nat.mod_two_eq_zero_or_one i with hm | hm
    · have ei : i / 2 * 2 = i := by omega
      rw [ei] at r0 b0
      rw [r0] at hu
      cases hu
      exact b0
    · have ei : i / 2 * 2 + 1 = i := by omega
      rw [ei] at r1 b1
      rw [r1] at hu
      cases hu
      exact b1
  · obtain ⟨i, hi'⟩ := List.getElem?_of_mem hs
    exact (hp i s hi').2.1
  · obtain ⟨i, hi'⟩ := List.getElem?_of_mem hs
    exact (hp i s hi').2.2
set_option maxRecDepth 100000 in
theorem open_disk_w {fuel : Nat} {cs : List Value} {x : DataW H × List MemPlace} (hl : cs.length = 3) (h : DataW.trod enc Try.prog w base (fun _ => true) true fuel 49 cs = some x) (hL : Light Try.prog 49 x.1) :
    ∃ (R : Int) (A0 A1 : Option Addr) (n0 c0 n1 c1 : Nat) (l0 l1 : List St), cs = [.int .u64 R, .slice A0 n0 c0, .slice A1 n1 c1] ∧ RowV w A0 n0 c0 l0 ∧ RowV w A1 n1 c1 l1 ∧ (0 ≤ R ∧ R < 18446744073709551616) ∧ (∀ s ∈ l0, s.q ≤ 140737488351232) ∧ (∀ s ∈ l1, s.q ≤ 140737488351232) := by
  match cs, hl with
  | [x0, x1, x2], _ =>
  obtain ⟨k, hg⟩ := open_inner_w Try.underlying49 h hL
  obtain ⟨_, s0, -⟩ := hg 0 _ rfl
  obtain ⟨y, s1, hy⟩ := hg 1 _ rfl
  obtain ⟨R, e0, _, w0⟩ := DataW.trod_int Try.underlying22 s0
  obtain ⟨ys, m, _, hys, _, hlen, hi⟩ := DataW.trod_array Try.underlying47 s1
  have t0 := hi 0 (by omega)
  have t1 := hi 1 (by omega)
  rw [List.getElem?_eq_getElem (by omega)] at t0 t1
  have hw : ∀ (j : Nat) (hj : j < ys.length), Light Try.prog 46 ys[j].1 := fun j hj n hn => hy n (by
    rw [hys]
    simp only [DataW.weights, Try.underlying47]
    exact weights_all_mem (List.mem_map_of_mem (List.getElem_mem hj)) n hn)
  obtain ⟨A0, n0, c0, l0, e1, h0, z0⟩ := open_row_w t0 (hw 0 (by omega))
  obtain ⟨A1, n1, c1, l1, e2, h1, z1⟩ := open_row_w t1 (hw 1 (by omega))
  simp [cellsU64E, cellsRowE, cellsRowsE] at e0 e1 e2
  subst e0 e1 e2
  exact ⟨R, A0, A1, n0, c0, n1, c1, l0, l1, rfl, h0, h1, wf_u64 w0, z0, z1⟩
end
set_option maxRecDepth 1000000 in
/-- law_row, with what the form says of sizes -/
theorem law_row_w (os : Os) (started : os.Started) (H : Type) (enc : TypeId × Value → H) {f : FuncId} {F : Func} (spec : ChangeSpec)
    (hv : spec.vars = []) (hspec : ∀ ds : List (DataW H), ds.length = F.params.toList.length → spec.fn H (ds ++ []) = { results := [.lit (.bool true)], args := ds })
    (hnoinit : Try.checked.prog.inits.idxOf? f = none) (hfn : Try.checked.prog.funcs[f]? = some F) (hres : F.resultTypes = #[4])
    (hread : ∀ t ∈ F.params.toList, Try.prog.readableRec t = true ∧ t < Try.prog.types.size)
    (witness : ∃ (w : World) (tape : Tape) (i : Input), w.os = os ∧ (w.forCall tape i).Shaped Try.checked.prog ∧ i.vars = [] ∧ Input.okWide Try.checked.prog (w.forCall tape i) .any w.heap.size f i ∧
      spec.pre6 enc Try.checked.prog F [] false (w.forCall tape i).memory i.args ∧ ({} : Assume).holds Try.checked.prog (lone (Frame.enter Try.checked.prog f i.args .normal) [] (w.forCall tape i)))
    (walk : ∀ (W : World) (base : Nat) (args : Array Value) (ds : List (DataW H)) (ps : List MemPlace),
      (∀ (j : Nat) t v, F.params[j]? = some t → args[j]? = some v → Value.okWide Try.prog W .any base t v) →
      DataW.TrodAll enc Try.prog W 0 (fun _ => true) true F.params.toList args.toList ds ps →
      (∀ x ∈ ps, x.block < W.heap.size) → (∀ (j : Nat) t d, F.params.toList[j]? = some t → ds[j]? = some d → Light Try.prog t d) →
      Calls Try.prog f args W fun e W' => e = .returned (.bool true) ∧ Below W.heap.size W W') :
    ReturnsInHanded {} Try.checked os f .any (spec.pre6 enc Try.prog F [] false) (spec.post enc Try.prog F false true false false) := by
  refine returnsInHanded_of_change_sized (C := Try.checked) own started hnoinit hfn witness ?_
  intro W base args ds gs before hval hW _ hz _
  have hW' := hW
  have hlt : ∀ x ∈ before, x.block < W.heap.size := fun x hx => hW'.lt x hx
  obtain ⟨p, q, hA, hV, rfl, hfz, hnd⟩ := hW
  rw [hv] at hV
  obtain ⟨rfl, rfl⟩ := trodVars_none hV
  have hvt : spec.plain.varTypes Try.checked.prog = [] := by simp [DataSpec.varTypes, ChangeSpec.plain, hv]
  rw [hvt, List.append_nil, List.append_nil] at hz
  have hlen : ds.length = F.params.toList.length := by
    have : ∀ (ts : List TypeId) (vs : List Value) (ds : List (DataW H)) (ps : List MemPlace), DataW.TrodAll enc Try.checked.prog W 0 (fun _ => true) true ts vs ds ps → ds.length = ts.length := by
      intro ts
      induction ts with
      | nil => intro vs ds ps h; obtain ⟨_, rfl, _⟩ := trodAll_nil h; rfl
      | cons t ts ih => intro vs ds ps h; obtain ⟨v, vs', d, ds', p, q, rfl, rfl, rfl, _, h2⟩ := trodAll_cons h; simp [ih _ _ _ h2]
    exact this _ _ _ _ hA
  refine (walk W base args ds p hval hA (fun x hx => hlt x (by simp [hx])) fun j t d ht hd n hn => ?_).mono fun e W' ⟨he, hb⟩ => ?_
  · have := List.all_eq_true.1 hz n (DataW.weights_mem_each ht hd n hn)
    simpa using this
  subst he
  refine ⟨_, rfl, ds, [], p ++ [], [], p, [], hW', ?_, ?_, ?_, hb.frame _, fun h => by cases h⟩
  · rw [hspec ds hlen, hres]
    exact trodAll_mk1 (shut_bool Try.underlying4 true)
  · rw [hspec ds hlen]
    exact trodAll_below laid hb _ _ _ _ hread hA (fun x hx => hlt x (by simp [hx]))
  · rw [hv, hspec ds hlen]
    rfl
end Go.Proofs.Ytkdjmfaodojmfaa

namespace Go.Proofs.Ytkdjmfaodojmfaa
open Go.ChangeShapes Go.WideShapes Go.ChangeAt Go.RowKit

/-! Worlds and accesses that came in. -/
/-- a world that came in -/
structure WldP (w : World) (A : Option Addr) (q c : Nat) (ws : List Int) (R : Int) (A0 A1 : Option Addr) (n0 c0 n1 c1 : Nat) (l0 l1 : List St) : Prop where
  words : WordsV w A q c ws
  row0 : RowV w A0 n0 c0 l0
  row1 : RowV w A1 n1 c1 l1
  root : 0 ≤ R ∧ R < 18446744073709551616
  z0 : ∀ s ∈ l0, s.q ≤ 140737488351232
  z1 : ∀ s ∈ l1, s.q ≤ 140737488351232
theorem WldP.ext {w w' : World} {A : Option Addr} {q c : Nat} {ws : List Int} {R : Int} {A0 A1 : Option Addr} {n0 c0 n1 c1 : Nat} {l0 l1 : List St} (h : WldP w A q c ws R A0 A1 n0 c0 n1 c1 l0 l1) (hx : Ext w w') : WldP w' A q c ws R A0 A1 n0 c0 n1 c1 l0 l1 :=
  ⟨h.words.ext hx, h.row0.ext hx, h.row1.ext hx, h.root, h.z0, h.z1⟩
theorem cellsMem : Try.prog.cellsOf 45 = 3 := by kernel_rfl
theorem cellsWorld : Try.prog.cellsOf 51 = 6 := by kernel_rfl
section
variable {H : Type} {enc : TypeId × Value → H} {w : World} {base : Nat}
set_option maxRecDepth 100000 in
theorem open_mem {fuel : Nat} {cs : List Value} {x : DataW H × List MemPlace} (hl : cs.length = 3) (h : DataW.trod enc Try.prog w base (fun _ => true) true fuel 45 cs = some x) :
    ∃ (T C : Int) (A : Option Addr) (q c : Nat) (ws : List Int), cs = [.int .i64 T, .int .i64 C, .slice A q c] ∧ WordsV w A q c ws := by
  obtain ⟨x0, x1, x2, rfl⟩ := list_three hl
  obtain ⟨k, hg⟩ := open_inner Try.underlying45 h
  obtain ⟨_, s0⟩ := hg 0 _ rfl
  obtain ⟨_, s1⟩ := hg 1 _ rfl
  obtain ⟨_, s2⟩ := hg 2 _ rfl
  obtain ⟨T, e0, _, w0⟩ := DataW.trod_int Try.underlying3 s0
  obtain ⟨C, e1, _, w1⟩ := DataW.trod_int Try.underlying3 s1
  obtain ⟨A, q, c, ws, e2, hA⟩ := open_words s2
  simp [cellsIntS, cellsWordsS] at e0 e1 e2
  subst e0 e1 e2
  exact ⟨T, C, A, q, c, ws, rfl, hA⟩
set_option maxRecDepth 100000 in
theorem open_world {fuel : Nat} {cs : List Value} {x : DataW H × List MemPlace} (hl : cs.length = 6) (h : DataW.trod enc Try.prog w base (fun _ => true) true fuel 51 cs = some x) (hL : Light Try.prog 51 x.1) :
    ∃ (T C : Int) (A : Option Addr) (q c : Nat) (ws : List Int) (R : Int) (A0 A1 : Option Addr) (n0 c0 n1 c1 : Nat) (l0 l1 : List St), cs = [.int .i64 T, .int .i64 C, .slice A q c, .int .u64 R, .slice A0 n0 c0, .slice A1 n1 c1] ∧ WldP w A q c ws R A0 A1 n0 c0 n1 c1 l0 l1 := by
  match cs, hl with
  | [x0, x1, x2, x3, x4, x5], _ =>
  obtain ⟨k, hg⟩ := open_inner_w Try.underlying51 h hL
  obtain ⟨_, s0, -⟩ := hg 0 _ rfl
  obtain ⟨_, s1, y1⟩ := hg 1 _ rfl
  obtain ⟨T, C, A, q, c, ws, e0, hA⟩ := open_mem (by simp [cellsMem]) s0
  obtain ⟨R, A0, A1, n0, c0, n1, c1, l0, l1, e1, h0, h1, hR, z0, z1⟩ := open_disk_w (by simp [cellsDiskE]) s1 y1
  simp [cellsMem, cellsDiskE] at e0 e1
  obtain ⟨rfl, rfl, rfl⟩ := e0
  obtain ⟨rfl, rfl, rfl⟩ := e1
  exact ⟨T, C, A, q, c, ws, R, A0, A1, n0, c0, n1, c1, l0, l1, rfl, hA, h0, h1, hR, z0, z1⟩
set_option maxRecDepth 100000 in
/-- an access that came in -/
theorem open_access {fuel : Nat} {cs : List Value} {x : DataW H × List MemPlace} (hl : cs.length = 6) (h : DataW.trod enc Try.prog w base (fun _ => true) true fuel 33 cs = some x) :
    ∃ A : AccK, AccV w (.agg cs.toArray) A := by
  obtain ⟨x0, x1, x2, x3, x4, x5, rfl⟩ := list_six hl
  obtain ⟨k, hg⟩ := open_inner Try.underlying33 h
  obtain ⟨_, s0⟩ := hg 0 _ rfl
  obtain ⟨_, s1⟩ := hg 1 _ rfl
  obtain ⟨_, s2⟩ := hg 2 _ rfl
  obtain ⟨_, s3⟩ := hg 3 _ rfl
  obtain ⟨_, s4⟩ := hg 4 _ rfl
  obtain ⟨_, s5⟩ := hg 5 _ rfl
  obtain ⟨i0, e0, _, w0⟩ := DataW.trod_int Try.underlying3 s0
  obtain ⟨i1, e1, _, w1⟩ := DataW.trod_int Try.underlying3 s1
  obtain ⟨i2, e2, _, w2⟩ := DataW.trod_int Try.underlying22 s2
  obtain ⟨i3, e3, _, w3⟩ := DataW.trod_int Try.underlying22 s3
  obtain ⟨D, dk, dc, d, e4, hD⟩ := open_bytes s4
  obtain ⟨B, wk, wc, ws, e5, hA⟩ := open_words s5
  simp [cellsBytes, cellsIntS, cellsU64S, cellsWordsS] at e0 e1 e2 e3 e4 e5
  subst e0 e1 e2 e3 e4 e5
  exact ⟨⟨i0, i1, i2, i3, d, ws⟩, D, dk, dc, B, wk, wc, rfl, hD, hA, wf_u64 w2, wf_u64 w3⟩
set_option maxRecDepth 100000 in
theorem open_words_arg {b0 : Nat} {v : Value} {d : DataW H} {p : List MemPlace} (hv : Value.okWide Try.prog w .any b0 31 v) (h : DataW.Trod enc Try.prog w base (fun _ => true) true 31 v d p) :
    ∃ A n c l, v = .slice A n c ∧ WordsV w A n c l := by
  obtain ⟨A0, n0, c0, rfl⟩ := okWide_slice Try.underlying31 hv
  obtain ⟨fuel, hf⟩ := h
  obtain ⟨A, n, c, l, e, hV⟩ := open_words hf
  simp [Value.cells] at e
  obtain ⟨rfl, rfl, rfl⟩ := e
  exact ⟨_, _, _, l, rfl, hV⟩
set_option maxRecDepth 100000 in
theorem open_world_arg {b0 : Nat} {v : Value} {d : DataW H} {p : List MemPlace} (hv : Value.okWide Try.prog w .any b0 51 v) (h : DataW.Trod enc Try.prog w base (fun _ => true) true 51 v d p) (hL : Light Try.prog 51 d) :
    ∃ (T C : Int) (A : Option Addr) (q c : Nat) (ws : List Int) (R : Int) (A0 A1 : Option Addr) (n0 c0 n1 c1 : Nat) (l0 l1 : List St), v = .agg #[.int .i64 T, .int .i64 C, .slice A q c, .int .u64 R, .slice A0 n0 c0, .slice A1 n1 c1] ∧ WldP w A q c ws R A0 A1 n0 c0 n1 c1 l0 l1 := by
  obtain ⟨cs, rfl, hsz⟩ := okWide_struct Try.underlying51 hv
  obtain ⟨fuel, hf⟩ := h
  obtain ⟨T, C, A, q, c, ws, R, A0, A1, n0, c0, n1, c1, l0, l1, e, hP⟩ := open_world (by rw [← cellsWorld]; simpa [Value.cells] using hsz) hf hL
  refine ⟨T, C, A, q, c, ws, R, A0, A1, n0, c0, n1, c1, l0, l1, ?_, hP⟩
  have : cs = cs.toList.toArray := by simp
  rw [this, show cs.toList = _ from e]
set_option maxRecDepth 100000 in
theorem open_access_arg {b0 : Nat} {v : Value} {d : DataW H} {p : List MemPlace} (hv : Value.okWide Try.prog w .any b0 33 v) (h : DataW.Trod enc Try.prog w base (fun _ => true) true 33 v d p) :
    ∃ A : AccK, AccV w v A := by
  obtain ⟨cs, rfl, hsz⟩ := okWide_struct Try.underlying33 hv
  obtain ⟨fuel, hf⟩ := h
  obtain ⟨A, hA⟩ := open_access (by rw [← show Try.prog.cellsOf 33 = 6 by kernel_rfl]; simpa [Value.cells] using hsz) hf
  refine ⟨A, ?_⟩
  have : cs = cs.toList.toArray := by simp
  rw [this]
  exact hA
end
/-- a small world's keys -/
theorem WldP.small {w : World} {T C : Int} {A : Option Addr} {q c : Nat} {ws : List Int} {R : Int} {A0 A1 : Option Addr} {n0 c0 n1 c1 : Nat} {l0 l1 : List St} (h : WldP w A q c ws R A0 A1 n0 c0 n1 c1 l0 l1) (hr : rightW T C q n0 n1 l0 l1 = true) (hs : sumQ l0 + sumQ l1 ≤ 4000) (hq : q ≤ 600) :
    n1 = n0 ∧ (n0 : Int) = T ∧ (1 ≤ T ∧ T ≤ 64 ∧ 0 ≤ C ∧ C ≤ 65536) ∧ (q : Int) = 8 + T + 8 * C ∧ Fit ⟨T, C, ws, R, n0, l0.map St.key, l1.map St.key⟩ 60000 ∧
      WldV w (.agg #[.int .i64 T, .int .i64 C, .slice A q c, .int .u64 R, .slice A0 n0 c0, .slice A1 n1 c1]) ⟨T, C, ws, R, n0, l0.map St.key, l1.map St.key⟩ := by
  simp only [rightW, rightM, rightD, Bool.and_eq_true, decide_eq_true_eq, beq_iff_eq] at hr
  obtain ⟨⟨hm, hqq⟩, ⟨⟨hn1, hn64, hnn⟩, hall⟩, hnT⟩ := hr
  have hmay := mayB_true hm
  subst hnn
  have hk : ∀ (l : List St) (A : Option Addr) (n c : Nat), RowV w A n c l → sumQ l ≤ 4000 → ∀ k ∈ l.map St.key, k.1.length + 60000 ≤ 65536 := fun l A n c hl hs k hk => by
    obtain ⟨s, hs', rfl⟩ := List.mem_map.1 hk
    have h1 := sumQ_mem hs'
    have h2 : s.d.length = s.q := (hl.ok s hs').len
    simp only [St.key]
    omega
  refine ⟨rfl, hnT, hmay, hqq, ⟨by simp only; omega, by simp only; omega, h.root, ?_, hk l0 _ _ _ h.row0 (by omega), hk l1 _ _ _ h.row1 (by omega)⟩, ⟨A, q, c, A0, A1, c0, c1, rfl, h.words, l0, l1, ⟨_, _, _, _, rfl, h.row0, h.row1⟩, rfl, rfl⟩⟩
  have := h.words.len
  simp only
  omega
end Go.Proofs.Ytkdjmfaodojmfaa

namespace Go.Proofs.Ytkdjmfaodojmfaa
open Go.RowKit
theorem bytes_new (l : List UInt8) (W : World) (fr : Nat × Nat) (hl : l.length ≤ 65536) : BytesV (W.alloc (.cells (bytesOf l).toArray 5 fr)) (some ⟨W.heap.size, 0, none⟩) l.length l.length l := by
  refine ⟨rfl, Nat.le_refl _, by simp only [maxLen]; omega, (by intro h; cases h), fun _ => ⟨_, rfl, fun j u hu => ?_⟩⟩
  have h1 : (W.alloc (.cells (bytesOf l).toArray 5 fr)).heap[W.heap.size]? = some (.cells (bytesOf l).toArray 5 fr) := heap_alloc_new W _
  have h2 : (⟨W.heap.size, 0, none⟩ : Addr).add j = ⟨W.heap.size, j, none⟩ := by unfold Addr.add; split <;> simp_all
  rw [h2]
  simp only [World.cell?, h1, Option.isSome_none, Bool.false_eq_true, if_false]
  simpa using hu
end Go.Proofs.Ytkdjmfaodojmfaa

namespace Go.Proofs.Ytkdjmfaodojmfaa
open Go.RowKit

/-! The example of chapter 10. -/
def sX (z : Int) (b : List UInt8) : WldK := ⟨2, 1, [0, 1, 0, z, 0, 0, 0, 0, 0, 0, 0, 0, 0, 0, 0, 0, 0, 0], 0, 2, [([], 0), (b, 0)], [([], 0), ([], 0)]⟩
theorem sX0 : newW 2 1 = sX 0 [] := by rfl
theorem sFit (z : Int) (b : List UInt8) (h : b.length ≤ 1) (m : Nat) (hm : m ≤ 1) : Fit (sX z b) m := by
  refine ⟨by simp [sX], by simp [sX], by simp [sX], by simp [sX], fun k hk => ?_, fun k hk => ?_⟩
  · simp [sX] at hk
    rcases hk with rfl | rfl
    · simp; omega
    · simp; omega
  · simp [sX] at hk
    subst hk
    simp; omega
theorem sD1 : doK (sX 0 []) 0 ⟨1, 3, 5, 0, [], []⟩ true = sX 5 [] ∧ doR (sX 0 []) ⟨1, 3, 5, 0, [], []⟩ true = ⟨0, [], false⟩ := ⟨by rfl, by rfl⟩
theorem sD2 : doK (sX 5 []) 1 ⟨2, 3, 5, 7, [], []⟩ false = sX 7 [] ∧ doR (sX 5 []) ⟨2, 3, 5, 7, [], []⟩ false = ⟨1, [], false⟩ := ⟨by rfl, by rfl⟩
theorem sD3 : doK (sX 7 []) 1 ⟨5, 0, 0, 0, [120], []⟩ true = sX 7 [] ∧ doR (sX 7 []) ⟨5, 0, 0, 0, [120], []⟩ true = ⟨0, [], true⟩ := ⟨by rfl, by rfl⟩
theorem sD4 : doK (sX 7 []) 1 ⟨5, 0, 0, 0, [120], []⟩ false = sX 7 [120] ∧ doR (sX 7 []) ⟨5, 0, 0, 0, [120], []⟩ false = ⟨0, [], false⟩ := ⟨by rfl, by rfl⟩
set_option maxRecDepth 100000 in
set_option maxHeartbeats 4000000 in
theorem shown10_any (w : World) : Calls Try.prog 104 #[] w fun e w' => e = .returned (.bool true) ∧ Ext w w' := by
  have kc := fun (w : World) (C : Array Value) (n c : Nat) => Lib.run_convert_bytes_const (P := Try.prog) w 30 5 C n c Try.underlying30 Try.underlying5
  have hmk : ∀ (W : World) (x : Int), (Instr.buildSlice 30 1 #[(0, .int .u8 x)]).run Try.prog W = .ok (.slice (some ⟨W.heap.size, 0, none⟩) 1 1) (W.alloc (.cells #[.int .u8 x] 5)) := fun _ _ => by kernel_rfl
  have hb0 : ∀ W : World, (Instr.build 51 #[]).run Try.prog W = .ok (.agg #[.int .i64 0, .int .i64 0, .slice none 0 0, .int .u64 0, .slice none 0 0, .slice none 0 0]) W := fun _ => by kernel_rfl
  have ha1 : ∀ (W : World) (x y z : Int), (Instr.build 33 #[(0, .int .i64 x), (1, .int .i64 y), (2, .int .u64 z)]).run Try.prog W = .ok (.agg #[.int .i64 x, .int .i64 y, .int .u64 z, .int .u64 0, .slice none 0 0, .slice none 0 0]) W := fun _ _ _ _ => by kernel_rfl
  have ha2 : ∀ (W : World) (x y z u : Int), (Instr.build 33 #[(0, .int .i64 x), (1, .int .i64 y), (2, .int .u64 z), (3, .int .u64 u)]).run Try.prog W = .ok (.agg #[.int .i64 x, .int .i64 y, .int .u64 z, .int .u64 u, .slice none 0 0, .slice none 0 0]) W := fun _ _ _ _ _ => by kernel_rfl
  have ha3 : ∀ (W : World) (x : Int) (D : Option Addr) (m cd : Nat), (Instr.build 33 #[(0, .int .i64 x), (4, .slice D m cd)]).run Try.prog W = .ok (.agg #[.int .i64 x, .int .i64 0, .int .u64 0, .int .u64 0, .slice D m cd, .slice none 0 0]) W := fun _ _ _ _ _ => by kernel_rfl
  go_enter Try.func104, Try.ntmps104
  go_wp2_with fail
  refine (ranew_yes 2 1 (by omega) (by omega) (by omega) _).mono ?_
  rintro e u0 ⟨v0, rfl, hW0, hX0⟩
  rw [sX0] at hW0
  have hV0 := hW0
  obtain ⟨A0, q0, c0, B0, C0, b0, d0, rfl, hw0, -⟩ := hW0
  simp only [sX] at hw0
  go_upto_region 2 with (fail)
  have hx0 : Ext u0 (u0.alloc (.cells #[.int .i64 2, .int .i64 1, .slice A0 q0 c0, .int .u64 0, .slice B0 2 b0, .slice C0 2 d0] 51)) := (Below.refl _ u0).alloc (Nat.le_refl _) _
  have hb_0 := heap_alloc_new u0 (.cells #[.int .i64 2, .int .i64 1, .slice A0 q0 c0, .int .u64 0, .slice B0 2 b0, .slice C0 2 d0] 51)
  simp only [sX, Int.cast_ofNat_Int] at *
  generalize u0.alloc (.cells #[.int .i64 2, .int .i64 1, .slice A0 q0 c0, .int .u64 0, .slice B0 2 b0, .slice C0 2 d0] 51) = U0 at *
  generalize u0.heap.size = g0 at *
  replace hX0 := hX0.trans hx0
  replace hV0 := hV0.ext hx0
  clear hx0
  have e0 : U0.cell? ⟨g0, 0, none⟩ = some (.int .i64 2) := by simp [World.cell?, hb_0]
  have e1 : U0.cell? ⟨g0, 1, none⟩ = some (.int .i64 1) := by simp [World.cell?, hb_0]
  have e2 : U0.cell? ⟨g0, 2, none⟩ = some (.slice A0 q0 c0) := by simp [World.cell?, hb_0]
  have e3 : U0.cell? ⟨g0, 3, none⟩ = some (.int .u64 0) := by simp [World.cell?, hb_0]
  have e4 : U0.cell? ⟨g0, 4, none⟩ = some (.slice B0 2 b0) := by simp [World.cell?, hb_0]
  have e5 : U0.cell? ⟨g0, 5, none⟩ = some (.slice C0 2 d0) := by simp [World.cell?, hb_0]
  go_wp2_with fail
  refine (do_any _ _ (sX 0 []) 0 ⟨1, 3, 5, 0, [], []⟩ true _ hV0 ⟨none, 0, 0, none, 0, 0, rfl, bytes_nil _, words_nil _, by decide, by decide⟩ (sFit 0 [] (by simp) 0 (by simp))).mono ?_
  rintro e u1 ⟨v1, r1, rfl, hW, ⟨S1, s1, t1, rfl, hS1⟩, hu⟩
  rw [sD1.1] at hW
  rw [sD1.2] at hS1
  have hV1 := hW
  obtain ⟨A1, q1, c1, B1, C1, b1, d1, rfl, hw1, hd1⟩ := hW
  simp only [sX, Int.cast_ofNat_Int] at hw1 hd1 hV1
  rw [sD1.2]
  simp only [sX]
  go_upto_region 3 with (fail)
  obtain ⟨hx, hb_1, hr_1⟩ := two_boxes7 u1 (.cells #[.int .i64 2, .int .i64 1, .slice A1 q1 c1, .int .u64 0, .slice B1 2 b1, .slice C1 2 d1] 51) (.cells #[.int .u64 0, .slice S1 s1 t1, .bool false] 130)
  generalize (u1.alloc (.cells #[.int .i64 2, .int .i64 1, .slice A1 q1 c1, .int .u64 0, .slice B1 2 b1, .slice C1 2 d1] 51)).alloc (.cells #[.int .u64 0, .slice S1 s1 t1, .bool false] 130) = U1 at *
  generalize u1.heap.size = g1 at *
  replace hu := hu.trans hx
  replace hX0 := hX0.trans hu
  replace hV1 := hV1.ext hx
  replace hw1 := hw1.ext hx
  replace hd1 := hd1.ext hx
  clear hx hu e0 e1 e2 e3 e4 e5
  have e0 : U1.cell? ⟨g1, 0, none⟩ = some (.int .i64 2) := by simp [World.cell?, hb_1]
  have e1 : U1.cell? ⟨g1, 1, none⟩ = some (.int .i64 1) := by simp [World.cell?, hb_1]
  have e2 : U1.cell? ⟨g1, 2, none⟩ = some (.slice A1 q1 c1) := by simp [World.cell?, hb_1]
  have e3 : U1.cell? ⟨g1, 3, none⟩ = some (.int .u64 0) := by simp [World.cell?, hb_1]
  have e4 : U1.cell? ⟨g1, 4, none⟩ = some (.slice B1 2 b1) := by simp [World.cell?, hb_1]
  have e5 : U1.cell? ⟨g1, 5, none⟩ = some (.slice C1 2 d1) := by simp [World.cell?, hb_1]
  go_wp2_with fail
  refine (do_any _ _ (sX 5 []) 1 ⟨2, 3, 5, 7, [], []⟩ false _ hV1 ⟨none, 0, 0, none, 0, 0, rfl, bytes_nil _, words_nil _, by decide, by decide⟩ (sFit 5 [] (by simp) 0 (by simp))).mono ?_
  rintro e u2 ⟨v2, r2, rfl, hW, ⟨S2, s2, t2, rfl, hS2⟩, hu⟩
  rw [sD2.1] at hW
  rw [sD2.2] at hS2
  have hV2 := hW
  obtain ⟨A2, q2, c2, B2, C2, b2, d2, rfl, hw2, hd2⟩ := hW
  simp only [sX, Int.cast_ofNat_Int] at hw2 hd2 hV2
  rw [sD2.2]
  simp only [sX]
  go_upto_region 4 with (fail)
  obtain ⟨hx, hb_2, hr_2⟩ := two_boxes7 u2 (.cells #[.int .i64 2, .int .i64 1, .slice A2 q2 c2, .int .u64 0, .slice B2 2 b2, .slice C2 2 d2] 51) (.cells #[.int .u64 1, .slice S2 s2 t2, .bool false] 130)
  generalize (u2.alloc (.cells #[.int .i64 2, .int .i64 1, .slice A2 q2 c2, .int .u64 0, .slice B2 2 b2, .slice C2 2 d2] 51)).alloc (.cells #[.int .u64 1, .slice S2 s2 t2, .bool false] 130) = U2 at *
  generalize u2.heap.size = g2 at *
  replace hu := hu.trans hx
  replace hX0 := hX0.trans hu
  replace hV2 := hV2.ext hx
  replace hw2 := hw2.ext hx
  replace hd2 := hd2.ext hx
  replace hb_1 := heap_ext hb_1 hu
  replace hr_1 := heap_ext hr_1 hu
  replace hw1 := hw1.ext hu
  clear hx hu e0 e1 e2 e3 e4 e5
  have e0 : U2.cell? ⟨g2, 0, none⟩ = some (.int .i64 2) := by simp [World.cell?, hb_2]
  have e1 : U2.cell? ⟨g2, 1, none⟩ = some (.int .i64 1) := by simp [World.cell?, hb_2]
  have e2 : U2.cell? ⟨g2, 2, none⟩ = some (.slice A2 q2 c2) := by simp [World.cell?, hb_2]
  have e3 : U2.cell? ⟨g2, 3, none⟩ = some (.int .u64 0) := by simp [World.cell?, hb_2]
  have e4 : U2.cell? ⟨g2, 4, none⟩ = some (.slice B2 2 b2) := by simp [World.cell?, hb_2]
  have e5 : U2.cell? ⟨g2, 5, none⟩ = some (.slice C2 2 d2) := by simp [World.cell?, hb_2]
  have hB : BytesV (U2.alloc (.cells #[.int .u8 120] 5 (1, 2))) (some ⟨U2.heap.size, 0, none⟩) 1 1 [120] := bytes_new [120] U2 (1, 2) (by simp)
  have hn : Ext U2 (U2.alloc (.cells #[.int .u8 120] 5 (1, 2))) := (Below.refl _ U2).alloc (Nat.le_refl _) _
  go_wp2_with fail
  refine (do_any _ _ (sX 7 []) 1 ⟨5, 0, 0, 0, [120], []⟩ true _ (hV2.ext hn) ⟨_, _, _, none, 0, 0, rfl, hB, words_nil _, by decide, by decide⟩ (sFit 7 [] (by simp) 1 (by simp))).mono ?_
  rintro e u3 ⟨v3, r3, rfl, hW, ⟨S3, s3, t3, rfl, hS3⟩, hu⟩
  replace hu := hn.trans hu
  rw [sD3.1] at hW
  rw [sD3.2] at hS3
  have hV3 := hW
  obtain ⟨A3, q3, c3, B3, C3, b3, d3, rfl, hw3, hd3⟩ := hW
  simp only [sX, Int.cast_ofNat_Int] at hw3 hd3 hV3
  rw [sD3.2]
  simp only [sX]
  go_upto_region 5 with (fail)
  obtain ⟨hx, hb_3, hr_3⟩ := two_boxes7 u3 (.cells #[.int .i64 2, .int .i64 1, .slice A3 q3 c3, .int .u64 0, .slice B3 2 b3, .slice C3 2 d3] 51) (.cells #[.int .u64 0, .slice S3 s3 t3, .bool true] 130)
  generalize (u3.alloc (.cells #[.int .i64 2, .int .i64 1, .slice A3 q3 c3, .int .u64 0, .slice B3 2 b3, .slice C3 2 d3] 51)).alloc (.cells #[.int .u64 0, .slice S3 s3 t3, .bool true] 130) = U3 at *
  generalize u3.heap.size = g3 at *
  replace hu := hu.trans hx
  replace hX0 := hX0.trans hu
  replace hV3 := hV3.ext hx
  replace hw3 := hw3.ext hx
  replace hd3 := hd3.ext hx
  replace hb_1 := heap_ext hb_1 hu
  replace hr_1 := heap_ext hr_1 hu
  replace hb_2 := heap_ext hb_2 hu
  replace hr_2 := heap_ext hr_2 hu
  replace hw1 := hw1.ext hu
  replace hw2 := hw2.ext hu
  clear hx hu e0 e1 e2 e3 e4 e5 hB hn
  have e0 : U3.cell? ⟨g3, 0, none⟩ = some (.int .i64 2) := by simp [World.cell?, hb_3]
  have e1 : U3.cell? ⟨g3, 1, none⟩ = some (.int .i64 1) := by simp [World.cell?, hb_3]
  have e2 : U3.cell? ⟨g3, 2, none⟩ = some (.slice A3 q3 c3) := by simp [World.cell?, hb_3]
  have e3 : U3.cell? ⟨g3, 3, none⟩ = some (.int .u64 0) := by simp [World.cell?, hb_3]
  have e4 : U3.cell? ⟨g3, 4, none⟩ = some (.slice B3 2 b3) := by simp [World.cell?, hb_3]
  have e5 : U3.cell? ⟨g3, 5, none⟩ = some (.slice C3 2 d3) := by simp [World.cell?, hb_3]
  have hB : BytesV (U3.alloc (.cells #[.int .u8 120] 5 (1, 2))) (some ⟨U3.heap.size, 0, none⟩) 1 1 [120] := bytes_new [120] U3 (1, 2) (by simp)
  have hn : Ext U3 (U3.alloc (.cells #[.int .u8 120] 5 (1, 2))) := (Below.refl _ U3).alloc (Nat.le_refl _) _
  go_wp2_with fail
  refine (do_any _ _ (sX 7 []) 1 ⟨5, 0, 0, 0, [120], []⟩ false _ (hV3.ext hn) ⟨_, _, _, none, 0, 0, rfl, hB, words_nil _, by decide, by decide⟩ (sFit 7 [] (by simp) 1 (by simp))).mono ?_
  rintro e u4 ⟨v4, r4, rfl, hW, ⟨S4, s4, t4, rfl, hS4⟩, hu⟩
  replace hu := hn.trans hu
  rw [sD4.1] at hW
  rw [sD4.2] at hS4
  have hV4 := hW
  obtain ⟨A4, q4, c4, B4, C4, b4, d4, rfl, hw4, hd4⟩ := hW
  simp only [sX, Int.cast_ofNat_Int] at hw4 hd4 hV4
  rw [sD4.2]
  simp only [sX]
  go_upto_region 6 with (fail)
  obtain ⟨hx, hb_4, hr_4⟩ := two_boxes7 u4 (.cells #[.int .i64 2, .int .i64 1, .slice A4 q4 c4, .int .u64 0, .slice B4 2 b4, .slice C4 2 d4] 51) (.cells #[.int .u64 0, .slice S4 s4 t4, .bool false] 130)
  generalize (u4.alloc (.cells #[.int .i64 2, .int .i64 1, .slice A4 q4 c4, .int .u64 0, .slice B4 2 b4, .slice C4 2 d4] 51)).alloc (.cells #[.int .u64 0, .slice S4 s4 t4, .bool false] 130) = U4 at *
  generalize u4.heap.size = g4 at *
  replace hu := hu.trans hx
  replace hX0 := hX0.trans hu
  replace hV4 := hV4.ext hx
  replace hw4 := hw4.ext hx
  replace hd4 := hd4.ext hx
  replace hb_1 := heap_ext hb_1 hu
  replace hr_1 := heap_ext hr_1 hu
  replace hb_2 := heap_ext hb_2 hu
  replace hr_2 := heap_ext hr_2 hu
  replace hb_3 := heap_ext hb_3 hu
  replace hr_3 := heap_ext hr_3 hu
  replace hw1 := hw1.ext hu
  replace hw2 := hw2.ext hu
  replace hd3 := hd3.ext hu
  clear hx hu e0 e1 e2 e3 e4 e5 hB hn
  have l1 : 18 = q1 := hw1.len
  have l2 : 18 = q2 := hw2.len
  have l4 : 18 = q4 := hw4.len
  subst l1 l2 l4
  obtain ⟨a1, rfl, w1, -, -⟩ := hw1.at (i := 3) (by omega)
  obtain ⟨a2, rfl, w2, -, -⟩ := hw2.at (i := 3) (by omega)
  replace w1 : U4.cell? ⟨a1.block, a1.off + 3, none⟩ = some (.int .u64 5) := w1
  replace w2 : U4.cell? ⟨a2.block, a2.off + 3, none⟩ = some (.int .u64 7) := w2
  obtain ⟨x0, x1, hx0, -, kx0, -⟩ := hd4.rows
  obtain ⟨y0, y1, hy0, -, ky0, -⟩ := hd3.rows
  obtain ⟨aB, DB, cB, rfl, s1, s2⟩ := key_at hx0 (j := 1) (d := [120]) (k := 0) (by rw [kx0]; rfl)
  obtain ⟨aC, DC, cC, rfl, t1, -⟩ := key_at hy0 (j := 1) (d := []) (k := 0) (by rw [ky0]; rfl)
  replace s1 : U4.cell? ⟨aB.block, aB.off + 2, none⟩ = some (.slice DB 1 cB) := s1
  replace s2 : BytesV U4 DB 1 cB [120] := s2
  replace t1 : U4.cell? ⟨aC.block, aC.off + 2, none⟩ = some (.slice DC 0 cC) := t1
  clear hw1 hw2 hw4 hd3 hd4 hx0 hy0 kx0 ky0
  have q1 := run_convert_bytesV (P := Try.prog) s2 Try.underlying30 Try.underlying5 Try.underlying9
  have a0 : U4.cell? ⟨g1 + 1, 0, none⟩ = some (.int .u64 0) := by simp [World.cell?, hr_1]
  have b2 : U4.cell? ⟨g1, 2, none⟩ = some (.slice (some a1) 18 c1) := by simp [World.cell?, hb_1]
  have c0 : U4.cell? ⟨g2 + 1, 0, none⟩ = some (.int .u64 1) := by simp [World.cell?, hr_2]
  have d2 : U4.cell? ⟨g2, 2, none⟩ = some (.slice (some a2) 18 c2) := by simp [World.cell?, hb_2]
  have e2 : U4.cell? ⟨g3 + 1, 2, none⟩ = some (.bool true) := by simp [World.cell?, hr_3]
  have f2 : U4.cell? ⟨g4 + 1, 2, none⟩ = some (.bool false) := by simp [World.cell?, hr_4]
  have e4 : U4.cell? ⟨g3, 4, none⟩ = some (.slice (some aC) 2 b3) := by simp [World.cell?, hb_3]
  have p0 : U4.cell? ⟨g4, 0, none⟩ = some (.int .i64 2) := by simp [World.cell?, hb_4]
  have p1 : U4.cell? ⟨g4, 1, none⟩ = some (.int .i64 1) := by simp [World.cell?, hb_4]
  have p2 : U4.cell? ⟨g4, 2, none⟩ = some (.slice A4 18 c4) := by simp [World.cell?, hb_4]
  have p3 : U4.cell? ⟨g4, 3, none⟩ = some (.int .u64 0) := by simp [World.cell?, hb_4]
  have p4 : U4.cell? ⟨g4, 4, none⟩ = some (.slice (some aB) 2 b4) := by simp [World.cell?, hb_4]
  have p5 : U4.cell? ⟨g4, 5, none⟩ = some (.slice C4 2 d4) := by simp [World.cell?, hb_4]
  have hr1 : rightX (sX 7 [120]) = true := by rfl
  have hr0 : rightW 0 0 0 0 0 [] [] = false := by rfl
  clear hb_1 hb_2 hb_3 hb_4 hr_1 hr_2 hr_3 hr_4 kc hmk ha1 ha2 ha3
  go_wp2_with fail
  refine (accright_K hV4).mono ?_
  rintro e v1 ⟨rfl, hv1⟩
  rw [show rightX ⟨2, 1, [0, 1, 0, 7, 0, 0, 0, 0, 0, 0, 0, 0, 0, 0, 0, 0, 0, 0], 0, 2, [([], 0), ([120], 0)], [([], 0), ([], 0)]⟩ = true from hr1]
  go_wp2_with fail
  refine (accright_any 0 0 none 0 0 0 none none 0 0 0 0 [] [] _ (row_nil _) (row_nil _)).mono ?_
  rintro e v2 ⟨rfl, hv2⟩
  rw [hr0]
  go_wp2_with fail
  refine (adisk_any 5 _).mono ?_
  rintro e v3 ⟨rfl, rfl⟩
  rw [show diskKind 5 = true from rfl]
  go_wp2_with fail
  refine (adisk_any 13 _).mono ?_
  rintro e v4 ⟨rfl, rfl⟩
  rw [show diskKind 13 = false from rfl]
  go_wp2
  go_ret
  exact ⟨rfl, hX0.trans (hv1.trans hv2)⟩
end Go.Proofs.Ytkdjmfaodojmfaa

namespace Go.Proofs.Ytkdjmfaodojmfaa
open Go.ChangeShapes Go.WideShapes Go.ChangeAt Go.RowKit

/-! What the laws of chapter 10 share. -/
theorem boxes3 (w : World) (o0 o1 o2 : Obj) : Ext w (((w.alloc o0).alloc o1).alloc o2) ∧ (((w.alloc o0).alloc o1).alloc o2).heap[w.heap.size]? = some o0 ∧ (((w.alloc o0).alloc o1).alloc o2).heap[w.heap.size + 1]? = some o1 ∧ (((w.alloc o0).alloc o1).alloc o2).heap[w.heap.size + 1 + 1]? = some o2 := by
  obtain ⟨h, h0, h1⟩ := two_boxes7 w o0 o1
  have hx : Ext ((w.alloc o0).alloc o1) (((w.alloc o0).alloc o1).alloc o2) := (Below.refl _ _).alloc (Nat.le_refl _) _
  exact ⟨h.trans hx, heap_ext h0 hx, heap_ext h1 hx, by simpa using heap_alloc_new ((w.alloc o0).alloc o1) o2⟩
theorem doK_word {X : WldK} {me : Int} {A : AccK} {f : Bool} (h0 : 0 ≤ A.kind) (h4 : A.kind ≤ 4) : doK X me A f = { X with ws := wordsK X.ws A } := by
  have h1 : diskKind A.kind = false := by simp [diskKind]; omega
  have h2 : ¬ A.kind = 13 := by omega
  simp [doK, h1, h2]
theorem doR_word {X : WldK} {A : AccK} {f : Bool} (h0 : 0 ≤ A.kind) (h4 : A.kind ≤ 4) : doR X A f = wordsR X.ws A := by
  have h1 : diskKind A.kind = false := by simp [diskKind]; omega
  have h2 : ¬ A.kind = 13 := by omega
  simp [doR, h1, h2]
theorem useM_word {A : AccK} {f : Bool} (h4 : A.kind ≤ 4) : useM A f = 0 := by
  have h1 : diskKind A.kind = false := by simp [diskKind]; omega
  simp [useM, h1]
theorem Fit.word {X : WldK} {m : Nat} {me : Int} {A : AccK} {f : Bool} (h : Fit X m) (h0 : 0 ≤ A.kind) (h4 : A.kind ≤ 4) : Fit (doK X me A f) m := by
  rw [doK_word h0 h4]
  exact ⟨h.pos, h.le, h.root, by simp only [wordsK_length]; exact h.ws, h.k0, h.k1⟩
theorem wordsK_getD (ws : List Int) (a b : AccK) (hc : a.cell ≠ b.cell) (h : inW ws.length a = true) : (wordsK ws b).getD a.cell.toNat 0 = ws.getD a.cell.toNat 0 := by
  unfold wordsK
  split
  · rename_i hb
    have h1 := inW_iff.1 h
    have h2 := inW_iff.1 hb
    have : b.cell.toNat ≠ a.cell.toNat := by omega
    simp only [List.getD_eq_getElem?_getD, List.getElem?_set_ne this]
  · rfl
theorem wordsR_other (ws : List Int) (a b : AccK) (hc : a.cell ≠ b.cell) : wordsR (wordsK ws b) a = wordsR ws a := by
  unfold wordsR
  rw [wordsK_length]
  split
  · rename_i h
    rw [wordsK_getD ws a b hc h]
  · rfl
theorem wordsK_in {ws : List Int} {A : AccK} (h : inW ws.length A = true) : wordsK ws A = ws.set A.cell.toNat (turnX A.kind (ws.getD A.cell.toNat 0) A.a A.b) := by simp [wordsK, h]
theorem wordsK_out {ws : List Int} {A : AccK} (h : inW ws.length A = false) : wordsK ws A = ws := by simp [wordsK, h]
theorem wordsK_comm (ws : List Int) (a b : AccK) (hc : a.cell ≠ b.cell) : wordsK (wordsK ws a) b = wordsK (wordsK ws b) a := by
  by_cases ha : inW ws.length a = true
  · by_cases hb : inW ws.length b = true
    · have h1 := inW_iff.1 ha
      have h2 := inW_iff.1 hb
      rw [wordsK_in (ws := wordsK ws a) (by rw [wordsK_length]; exact hb), wordsK_in (ws := wordsK ws b) (by rw [wordsK_length]; exact ha), wordsK_getD ws b a (Ne.symm hc) hb, wordsK_getD ws a b hc ha, wordsK_in ha, wordsK_in hb]
      exact List.set_comm _ _ (by omega)
    · have hb' : inW ws.length b = false := by simpa using hb
      rw [wordsK_out hb', wordsK_out (ws := wordsK ws a) (by rw [wordsK_length]; exact hb')]
  · have ha' : inW ws.length a = false := by simpa using ha
    rw [wordsK_out ha', wordsK_out (ws := wordsK ws b) (by rw [wordsK_length]; exact ha')]
end Go.Proofs.Ytkdjmfaodojmfaa

namespace Go.Proofs.Ytkdjmfaodojmfaa
open Go.RowKit

/-! Worlds' words; what Pop and Push do, stepping alone: records come as from a pile. -/
def WldK.at (X : WldK) (i : Int) : Int := X.ws.getD i.toNat 0
def WldK.put (X : WldK) (i a : Int) : WldK := { X with ws := X.ws.set i.toNat a }
theorem put_len (X : WldK) (i a : Int) : (X.put i a).ws.length = X.ws.length := by simp [WldK.put]
theorem at_put_same {X : WldK} {i a : Int} (h : i.toNat < X.ws.length) : (X.put i a).at i = a := by
  unfold WldK.at WldK.put
  simp only [List.getD_eq_getElem?_getD, List.getElem?_set]
  simp [h]
theorem at_put_other {X : WldK} {i j a : Int} (h : j.toNat ≠ i.toNat) : (X.put i a).at j = X.at j := by
  unfold WldK.at WldK.put
  simp only [List.getD_eq_getElem?_getD, List.getElem?_set]
  rw [if_neg (fun e => h e.symm)]
theorem set_self (l : List Int) (i : Nat) : l.set i (l.getD i 0) = l := by
  refine List.ext_getElem? fun j => ?_
  rw [List.getElem?_set]
  by_cases h : i = j
  · subst h
    by_cases hl : i < l.length
    · simp [hl]
    · simp [hl]
  · rw [if_neg h]
theorem put_self (X : WldK) (i : Int) : X.put i (X.at i) = X := by
  show ({ X with ws := X.ws.set i.toNat (X.ws.getD i.toNat 0) } : WldK) = X
  rw [set_self]
theorem in_ask {X : WldK} {x : Ask} (h0 : 0 ≤ x.kind) (h4 : x.kind ≤ 4) (hc : 0 ≤ x.cell) (hl : x.cell < (X.ws.length : Int)) : inW X.ws.length x.K = true := inW_iff.2 ⟨h0, h4, hc, hl⟩
theorem doK_ask {X : WldK} {me : Int} {x : Ask} (h0 : 0 ≤ x.kind) (h4 : x.kind ≤ 4) (hc : 0 ≤ x.cell) (hl : x.cell < (X.ws.length : Int)) :
    doK X me x.K false = X.put x.cell (turnX x.kind (X.at x.cell) x.a x.b) := by
  rw [doK_word h0 h4, wordsK_in (in_ask h0 h4 hc hl)]; rfl
theorem doR_ask {X : WldK} {x : Ask} (h0 : 0 ≤ x.kind) (h4 : x.kind ≤ 4) (hc : 0 ≤ x.cell) (hl : x.cell < (X.ws.length : Int)) :
    (doR X x.K false).N = turnN x.kind (X.at x.cell) x.a := by
  rw [doR_word h0 h4, wordsR, in_ask h0 h4 hc hl]; rfl
section
variable {α : Type} {me : Int} {X X' : WldK} {i a b : Int} {k : Int → PT α} {j : Nat} {r : α}
theorem goes_load (hc : 0 ≤ i) (hl : i < (X.ws.length : Int)) (h : Goes me (k (X.at i)) X j r X') : Goes me (.ask (askL i) k) X (j + 1) r X' := by
  refine Goes.ask ?_
  rw [doR_ask (x := askL i) (by simp [askL]) (by simp [askL]) hc hl, doK_ask (x := askL i) (by simp [askL]) (by simp [askL]) hc hl]
  have e : X.put (askL i).cell (turnX (askL i).kind (X.at (askL i).cell) (askL i).a (askL i).b) = X := by
    have e2 : turnX (askL i).kind (X.at (askL i).cell) (askL i).a (askL i).b = X.at i := by simp [askL, turnX]
    rw [e2]; exact put_self X i
  rw [e]; simpa [askL, turnN] using h
theorem goes_store (hc : 0 ≤ i) (hl : i < (X.ws.length : Int)) (h : Goes me (k 0) (X.put i a) j r X') : Goes me (.ask (askS i a) k) X (j + 1) r X' := by
  refine Goes.ask ?_
  rw [doR_ask (x := askS i a) (by simp [askS]) (by simp [askS]) hc hl, doK_ask (x := askS i a) (by simp [askS]) (by simp [askS]) hc hl]
  simpa [askS, turnN, turnX] using h
theorem goes_swap (hc : 0 ≤ i) (hl : i < (X.ws.length : Int)) (h : Goes me (k (X.at i)) (X.put i a) j r X') : Goes me (.ask (askX i a) k) X (j + 1) r X' := by
  refine Goes.ask ?_
  rw [doR_ask (x := askX i a) (by simp [askX]) (by simp [askX]) hc hl, doK_ask (x := askX i a) (by simp [askX]) (by simp [askX]) hc hl]
  simpa [askX, turnN, turnX] using h
theorem goes_cas (hc : 0 ≤ i) (hl : i < (X.ws.length : Int)) (he : X.at i = a) (h : Goes me (k 1) (X.put i b) j r X') : Goes me (.ask (askC i a b) k) X (j + 1) r X' := by
  refine Goes.ask ?_
  rw [doR_ask (x := askC i a b) (by simp [askC]) (by simp [askC]) hc hl, doK_ask (x := askC i a b) (by simp [askC]) (by simp [askC]) hc hl]
  simpa [askC, turnN, turnX, he] using h
theorem goes_cas_no (hc : 0 ≤ i) (hl : i < (X.ws.length : Int)) (he : X.at i ≠ a) (h : Goes me (k 0) X j r X') : Goes me (.ask (askC i a b) k) X (j + 1) r X' := by
  refine Goes.ask ?_
  rw [doR_ask (x := askC i a b) (by simp [askC]) (by simp [askC]) hc hl, doK_ask (x := askC i a b) (by simp [askC]) (by simp [askC]) hc hl]
  have e := put_self X i
  simpa [askC, turnN, turnX, he, e] using h
end
/-! Chains of links. -/
def ChainW (X : WldK) (t c : Nat) : List Int → Int → Prop
  | [], r => r = 0
  | x :: l, r => r = x ∧ 1 ≤ x ∧ x ≤ (c : Int) ∧ ChainW X t c l (firstF (X.at (linkI t x)))
theorem link_pos (t : Nat) {r : Int} (h : 1 ≤ r) : 15 + (t : Int) ≤ linkI t r := by unfold linkI; omega
theorem link_in {t c : Nat} {r : Int} (h : 1 ≤ r) (hc : r ≤ (c : Int)) : linkI t r < (memL t c : Int) := by unfold linkI memL; omega
theorem link_inj {t : Nat} {r r' : Int} (h : linkI t r = linkI t r') : r = r' := by unfold linkI at h; omega
theorem link_ne {t : Nat} {r r' : Int} (h1 : 1 ≤ r) (h2 : 1 ≤ r') (h : r ≠ r') : (linkI t r).toNat ≠ (linkI t r').toNat := by
  have := link_pos t h1
  have := link_pos t h2
  intro e
  exact h (link_inj (t := t) (by omega))
theorem ChainW.keep {X X' : WldK} {t c : Nat} : ∀ {l : List Int} {r : Int}, ChainW X t c l r → (∀ x ∈ l, 1 ≤ x → X'.at (linkI t x) = X.at (linkI t x)) → ChainW X' t c l r
  | [], _, h, _ => h
  | x :: l, _, ⟨h1, h2, h3, h4⟩, hk => ⟨h1, h2, h3, by rw [hk x (by simp) h2]; exact h4.keep fun y hy => hk y (by simp [hy])⟩
theorem ChainW.mem {X : WldK} {t c : Nat} : ∀ {l : List Int} {r : Int}, ChainW X t c l r → ∀ x ∈ l, 1 ≤ x ∧ x ≤ (c : Int)
  | [], _, _, x, hx => by simp at hx
  | y :: l, _, ⟨_, h2, h3, h4⟩, x, hx => by
    rcases List.mem_cons.1 hx with rfl | hx
    · exact ⟨h2, h3⟩
    · exact h4.mem x hx
/-- which may be a memory of so many, whose words are words -/
structure Dim (X : WldK) (t c : Nat) : Prop where
  T : X.T = (t : Int)
  C : X.C = (c : Int)
  len : X.ws.length = memL t c
  t1 : 1 ≤ t
  t2 : t ≤ 64
  c2 : c ≤ 65536
  u : ∀ i : Int, U64 (X.at i)
theorem Dim.put {X : WldK} {t c : Nat} {i a : Int} (h : Dim X t c) (ha : U64 a) : Dim (X.put i a) t c :=
  ⟨h.T, h.C, by rw [put_len]; exact h.len, h.t1, h.t2, h.c2, fun j => by
    by_cases e : j.toNat = i.toNat
    · by_cases hl : i.toNat < X.ws.length
      · have : (X.put i a).at j = (X.put i a).at i := by unfold WldK.at; rw [e]
        rw [this, at_put_same hl]; exact ha
      · have : X.put i a = X := by
          unfold WldK.put; rw [List.set_eq_of_length_le (by omega)]
        rw [this]; exact h.u j
    · rw [at_put_other e]; exact h.u j⟩
theorem first_u64 {n : Int} (h : U64 n) : U64 (firstF n) := by have := h.1; have := h.2; unfold firstF U64; omega
theorem topN_first {r w : Int} (h0 : 0 ≤ r) (h1 : r < 1048576) : firstF (topN r w) = r := by
  unfold topN
  rw [top_ref ⟨h0, h1⟩ (by unfold U64; omega)]; unfold firstF; omega
theorem topN_tag {r w : Int} (h0 : 0 ≤ r) (h1 : r < 1048576) (hw : U64 w) : tagF (topN r w) = (tagF w + 1) % 17592186044416 := by
  have := hw.1; have := hw.2
  unfold topN
  rw [top_ref ⟨h0, h1⟩ (by unfold U64; omega)]; unfold tagF; omega
theorem topN_u (r w : Int) : U64 (topN r w) := top_u64 _ _
/-- the free records, the top first -/
structure PoolK (X : WldK) (t c : Nat) (pile : List Int) : Prop where
  dim : Dim X t c
  chain : ChainW X t c pile (firstF (X.at 1))
  nodup : pile.Nodup
theorem Dim.one {X : WldK} {t c : Nat} (h : Dim X t c) : (1 : Int) < (X.ws.length : Int) := by rw [h.len]; unfold memL; omega
def popX (X : WldK) (t : Nat) : WldK := X.put 1 (topN (firstF (X.at (linkI t (firstF (X.at 1))))) (X.at 1))
def pushX (X : WldK) (t : Nat) (r : Int) : WldK := (X.put (linkI t r) (firstF (X.at 1))).put 1 (topN r (X.at 1))
theorem pop_none {X : WldK} {t c : Nat} (h : PoolK X t c []) (me : Int) (f : Nat) : Goes me (popT t (f + 1)) X 1 0 X := by
  have h0 : firstF (X.at 1) = 0 := h.chain
  refine goes_load (by omega) h.dim.one ?_
  rw [if_pos h0]
  exact Goes.ret _ _
theorem pop_goes {X : WldK} {t c : Nat} {x : Int} {l : List Int} (h : PoolK X t c (x :: l)) (me : Int) (f : Nat) : Goes me (popT t (f + 1)) X 3 x (popX X t) := by
  obtain ⟨hx, h1, h2, h3⟩ := h.chain
  have hl := link_in (t := t) h1 h2
  have hp := link_pos t h1
  refine goes_load (by omega) h.dim.one ?_
  rw [if_neg (by omega), hx]
  refine goes_load (by omega) (by rw [h.dim.len]; omega) ?_
  refine goes_cas (by omega) h.dim.one rfl ?_
  rw [if_pos rfl]
  unfold popX; rw [hx]
  exact Goes.ret _ _
theorem pop_pool {X : WldK} {t c : Nat} {x : Int} {l : List Int} (h : PoolK X t c (x :: l)) : PoolK (popX X t) t c l ∧ tagF ((popX X t).at 1) = (tagF (X.at 1) + 1) % 17592186044416 := by
  obtain ⟨hx, h1, h2, h3⟩ := h.chain
  have hf := h.dim.u (linkI t x)
  have hf1 := hf.1
  have hf2 := hf.2
  have hlt : (1 : Int).toNat < X.ws.length := by have := h.dim.one; omega
  have h0 : 0 ≤ firstF (X.at (linkI t x)) := by unfold firstF; omega
  have h20 : firstF (X.at (linkI t x)) < 1048576 := by unfold firstF; omega
  unfold popX; rw [hx]
  refine ⟨⟨h.dim.put (topN_u _ _), ?_, (List.nodup_cons.1 h.nodup).2⟩, ?_⟩
  · rw [at_put_same hlt, topN_first h0 h20]
    exact h3.keep fun y _ hy => at_put_other (by have := link_pos t hy; omega)
  · rw [at_put_same hlt, topN_tag h0 h20 (h.dim.u 1)]
theorem push_goes {X : WldK} {t c : Nat} (h : Dim X t c) {x : Int} (h1 : 1 ≤ x) (h2 : x ≤ (c : Int)) (me : Int) (f : Nat) : Goes me (pushT t x (f + 1)) X 3 0 (pushX X t x) := by
  have hl := link_in (t := t) h1 h2
  have hp := link_pos t h1
  refine goes_load (by omega) h.one ?_
  refine goes_store (by omega) (by rw [h.len]; omega) ?_
  refine goes_cas (by omega) (by rw [put_len]; exact h.one) (at_put_other (by omega)) ?_
  rw [if_pos rfl]
  exact Goes.ret _ _
theorem push_pool {X : WldK} {t c : Nat} {pile : List Int} (h : PoolK X t c pile) {x : Int} (h1 : 1 ≤ x) (h2 : x ≤ (c : Int)) (hx : x ∉ pile) : PoolK (pushX X t x) t c (x :: pile) ∧ tagF ((pushX X t x).at 1) = (tagF (X.at 1) + 1) % 17592186044416 := by
  have hl := link_in (t := t) h1 h2
  have hp := link_pos t h1
  have hc := h.dim.c2
  have hlt : (1 : Int).toNat < (X.put (linkI t x) (firstF (X.at 1))).ws.length := by rw [put_len]; have := h.dim.one; omega
  have hle : (linkI t x).toNat < X.ws.length := by rw [h.dim.len]; omega
  have hu := h.dim.u 1
  have hff : firstF (firstF (X.at 1)) = firstF (X.at 1) := by unfold firstF; omega
  unfold pushX
  refine ⟨⟨(h.dim.put (first_u64 hu)).put (topN_u _ _), ?_, List.nodup_cons.2 ⟨hx, h.nodup⟩⟩, ?_⟩
  · rw [at_put_same hlt, topN_first (by omega) (by omega)]
    refine ⟨rfl, h1, h2, ?_⟩
    rw [at_put_other (by omega), at_put_same hle, hff]
    refine h.chain.keep fun y hy hy1 => ?_
    have hyp := link_pos t hy1
    rw [at_put_other (by omega), at_put_other (link_ne hy1 h1 (fun e => hx (e ▸ hy)))]
  · rw [at_put_same hlt, topN_tag (by omega) (by omega) hu]
/-! A new memory. -/
def upFrom : Nat → Nat → List Int
  | _, 0 => []
  | r, n + 1 => (r : Int) :: upFrom (r + 1) n
theorem upFrom_mem {x : Int} : ∀ {n r : Nat}, x ∈ upFrom r n → (r : Int) ≤ x ∧ x < (r : Int) + n
  | 0, _, h => by simp [upFrom] at h
  | n + 1, r, h => by
    rcases List.mem_cons.1 h with rfl | h
    · omega
    · have := upFrom_mem h; omega
theorem upFrom_nodup : ∀ (n r : Nat), (upFrom r n).Nodup
  | 0, _ => List.nodup_nil
  | n + 1, r => List.nodup_cons.2 ⟨fun h => by have := upFrom_mem h; omega, upFrom_nodup n (r + 1)⟩
theorem new_at (t c : Nat) (i : Nat) (h : i < memL t c) : (newW t c).at (i : Int) = newF t c c i := by
  unfold WldK.at newW
  simp [List.getD_eq_getElem?_getD, List.getElem?_map, List.getElem?_range h]
theorem new_at_out (t c : Nat) (i : Int) (h : memL t c ≤ i.toNat) : (newW t c).at i = 0 := by
  unfold WldK.at newW
  have e : (List.range (memL t c))[i.toNat]? = none := List.getElem?_eq_none (by simpa using h)
  simp [List.getD_eq_getElem?_getD, List.getElem?_map, e]
theorem new_dim {t c : Nat} (t1 : 1 ≤ t) (t2 : t ≤ 64) (hc : c ≤ 65536) : Dim (newW t c) t c :=
  ⟨rfl, rfl, by simp [newW], t1, t2, hc, fun i => by
    rcases Nat.lt_or_ge i.toNat (memL t c) with h | h
    · have e : (newW t c).at i = (newW t c).at (i.toNat : Int) := by unfold WldK.at; rw [Int.toNat_natCast]
      rw [e, new_at t c _ h]
      have := newF_u64 (r := c) h hc
      unfold U64; omega
    · rw [new_at_out t c i h]; exact u64_zero⟩
theorem link_nat (t : Nat) {r : Nat} (h : 1 ≤ r) : linkI t r = ((linkAt t r : Nat) : Int) := by unfold linkI linkAt; omega
theorem new_chain {t c : Nat} (hc : c ≤ 65536) : ∀ (n r : Nat), 1 ≤ r → r + n = c + 1 → ChainW (newW t c) t c (upFrom r n) (if n = 0 then 0 else (r : Int))
  | 0, r, _, _ => rfl
  | n + 1, r, h1, h2 => by
    refine ⟨by simp, by omega, by omega, ?_⟩
    rw [link_nat t h1, new_at t c _ (linkAt_lt h1 (by omega))]
    have ih := new_chain (t := t) hc n (r + 1) (by omega) (by omega)
    rcases n with _ | n
    · obtain rfl : r = c := by omega
      rw [newF_last h1]; exact ih
    · rw [newF_link h1 (by omega)]
      have e : firstF ((r + 1 : Nat) : Int) = ((r + 1 : Nat) : Int) := by unfold firstF; omega
      rw [e]; simpa using ih
theorem new_pool {t c : Nat} (t1 : 1 ≤ t) (t2 : t ≤ 64) (hc : c ≤ 65536) : PoolK (newW t c) t c (upFrom 1 c) := by
  refine ⟨new_dim t1 t2 hc, ?_, upFrom_nodup _ _⟩
  have e : (newW t c).at 1 = ((min c 1 : Nat) : Int) := by
    have := new_at t c 1 (by unfold memL; omega)
    rw [newF_head] at this; exact this
  have h := new_chain (t := t) hc c 1 (by omega) (by omega)
  rw [e]
  have e2 : firstF ((min c 1 : Nat) : Int) = if c = 0 then 0 else ((1 : Nat) : Int) := by
    unfold firstF; split <;> omega
  rw [e2]; exact h
/-! Operations that step alone. -/
theorem poolT_pop (t u : Int) (f : Nat) : poolT t 1 u f = (popT t f).bind fun r => .ret ⟨0, false, r, 0⟩ := by simp [poolT]
theorem poolT_push (t u : Int) (f : Nat) : poolT t 2 u f = (pushT t u f).bind fun _ => .ret ⟨0, false, 0, 0⟩ := by simp [poolT]
theorem pop_alone {X : WldK} {t c : Nat} {pile : List Int} (h : PoolK X t c pile) (me u : Int) (n : Nat) (hn : 4 ≤ n) :
    aloneN (poolN t 1 u) me n X [] = (if pile = [] then X else popX X t, ⟨0, false, pile.headD 0, 0⟩, true) := by
  cases pile with
  | nil =>
    refine alone_goes (T0 := poolT t 1 u (n + 5)) (T := poolT t 1 u (n + 5)) (j := 1) ?_ (fun l hl => poolN_eq _ _ _ _ _ (by simp at hl; omega)) rfl trivial (by omega)
    rw [poolT_pop]
    exact Goes.bind (f := fun r => .ret (⟨0, false, r, 0⟩ : OutN)) (pop_none h me (n + 4)) (Goes.ret _ _)
  | cons x l =>
    refine alone_goes (T0 := poolT t 1 u (n + 5)) (T := poolT t 1 u (n + 5)) (j := 3) ?_ (fun l hl => poolN_eq _ _ _ _ _ (by simp at hl; omega)) rfl trivial (by omega)
    rw [poolT_pop]
    exact Goes.bind (f := fun r => .ret (⟨0, false, r, 0⟩ : OutN)) (pop_goes h me (n + 4)) (Goes.ret _ _)
theorem push_alone {X : WldK} {t c : Nat} (h : Dim X t c) {x : Int} (h1 : 1 ≤ x) (h2 : x ≤ (c : Int)) (me : Int) (n : Nat) (hn : 4 ≤ n) :
    aloneN (poolN t 2 x) me n X [] = (pushX X t x, ⟨0, false, 0, 0⟩, true) := by
  refine alone_goes (T0 := poolT t 2 x (n + 5)) (T := poolT t 2 x (n + 5)) (j := 3) ?_ (fun l hl => poolN_eq _ _ _ _ _ (by simp at hl; omega)) rfl trivial (by omega)
  rw [poolT_push]
  exact Goes.bind (f := fun _ => .ret (⟨0, false, 0, 0⟩ : OutN)) (push_goes h h1 h2 me (n + 4)) (Goes.ret _ _)
end Go.Proofs.Ytkdjmfaodojmfaa

namespace Go.Proofs.Ytkdjmfaodojmfaa
open Go.RowKit

/-! play.Load, play.Store, play.Cas, play.Add, play.Swap: of any function value of two captured places. -/
set_option maxRecDepth 100000 in
theorem pload_next (F : FuncId) (c0 c1 : Value) (i : Int) (N : Int) (Q : World → Prop) (w : World)
    (hcall : ∀ (args : Array Value) (w : World), (callFunc F args).run Try.prog w = .ok (.enter F args) w)
    (h : Calls Try.prog F #[.agg #[.int .i64 0, .int .i64 i, .int .u64 0, .int .u64 0, .slice none 0 0, .slice none 0 0], c0, c1] w fun e w' => ∃ (B : Option Addr) (q c : Nat) (f : Bool), e = .returned (.agg #[.int .u64 N, .slice B q c, .bool f]) ∧ Q w') :
    Calls Try.prog 98 #[.func (.func F) #[] #[c0, c1], .int .i64 i] w fun e w' => e = .returned (.int .u64 N) ∧ Q w' := by
  have hb : ∀ (W : World) (x y : Int), (Instr.build 33 #[(0, .int .i64 x), (1, .int .i64 y)]).run Try.prog W = .ok (.agg #[.int .i64 x, .int .i64 y, .int .u64 0, .int .u64 0, .slice none 0 0, .slice none 0 0]) W := fun _ _ _ => by kernel_rfl
  have hfl : ∀ (W : World) (N : Int) (B : Option Addr) (q c : Nat) (f : Bool), (Instr.field 130 (.agg #[.int .u64 N, .slice B q c, .bool f]) 0).run Try.prog W = .ok (.int .u64 N) W := fun _ _ _ _ _ _ => by kernel_rfl
  go_enter Try.func98, Try.ntmps98
  go_wp2_with fail
  refine h.mono ?_
  rintro e w1 ⟨B, q, c, f, rfl, hq⟩
  go_wp2
  go_ret
  exact ⟨rfl, hq⟩
set_option maxRecDepth 100000 in
theorem pload_stop (F : FuncId) (c0 c1 : Value) (i : Int) (ch : List PanicEntry) (Q : World → Prop) (w : World)
    (hcall : ∀ (args : Array Value) (w : World), (callFunc F args).run Try.prog w = .ok (.enter F args) w)
    (h : Calls Try.prog F #[.agg #[.int .i64 0, .int .i64 i, .int .u64 0, .int .u64 0, .slice none 0 0, .slice none 0 0], c0, c1] w fun e w' => e = .panicked ch ∧ Q w') :
    Calls Try.prog 98 #[.func (.func F) #[] #[c0, c1], .int .i64 i] w fun e w' => e = .panicked ch ∧ Q w' := by
  have hb : ∀ (W : World) (x y : Int), (Instr.build 33 #[(0, .int .i64 x), (1, .int .i64 y)]).run Try.prog W = .ok (.agg #[.int .i64 x, .int .i64 y, .int .u64 0, .int .u64 0, .slice none 0 0, .slice none 0 0]) W := fun _ _ _ => by kernel_rfl
  have hfl : ∀ (W : World) (N : Int) (B : Option Addr) (q c : Nat) (f : Bool), (Instr.field 130 (.agg #[.int .u64 N, .slice B q c, .bool f]) 0).run Try.prog W = .ok (.int .u64 N) W := fun _ _ _ _ _ _ => by kernel_rfl
  go_enter Try.func98, Try.ntmps98
  go_wp2_with fail
  refine h.mono ?_
  rintro e w1 ⟨rfl, hq⟩
  exact ⟨rfl, rfl, hq⟩
set_option maxRecDepth 100000 in
theorem pstore_next (F : FuncId) (c0 c1 : Value) (i a : Int) (N : Int) (Q : World → Prop) (w : World)
    (hcall : ∀ (args : Array Value) (w : World), (callFunc F args).run Try.prog w = .ok (.enter F args) w)
    (h : Calls Try.prog F #[.agg #[.int .i64 1, .int .i64 i, .int .u64 a, .int .u64 0, .slice none 0 0, .slice none 0 0], c0, c1] w fun e w' => ∃ (B : Option Addr) (q c : Nat) (f : Bool), e = .returned (.agg #[.int .u64 N, .slice B q c, .bool f]) ∧ Q w') :
    Calls Try.prog 97 #[.func (.func F) #[] #[c0, c1], .int .i64 i, .int .u64 a] w fun e w' => e = .returned (.tuple #[]) ∧ Q w' := by
  have hb : ∀ (W : World) (x y z : Int), (Instr.build 33 #[(0, .int .i64 x), (1, .int .i64 y), (2, .int .u64 z)]).run Try.prog W = .ok (.agg #[.int .i64 x, .int .i64 y, .int .u64 z, .int .u64 0, .slice none 0 0, .slice none 0 0]) W := fun _ _ _ _ => by kernel_rfl
  have hfl : ∀ (W : World) (N : Int) (B : Option Addr) (q c : Nat) (f : Bool), (Instr.field 130 (.agg #[.int .u64 N, .slice B q c, .bool f]) 0).run Try.prog W = .ok (.int .u64 N) W := fun _ _ _ _ _ _ => by kernel_rfl
  go_enter Try.func97, Try.ntmps97
  go_wp2_with fail
  refine h.mono ?_
  rintro e w1 ⟨B, q, c, f, rfl, hq⟩
  go_wp2
  refine bodyPost_end (v := .tuple #[]) (by simp [results, Try.results97, go_sem]) rfl ⟨rfl, hq⟩
set_option maxRecDepth 100000 in
theorem pstore_stop (F : FuncId) (c0 c1 : Value) (i a : Int) (ch : List PanicEntry) (Q : World → Prop) (w : World)
    (hcall : ∀ (args : Array Value) (w : World), (callFunc F args).run Try.prog w = .ok (.enter F args) w)
    (h : Calls Try.prog F #[.agg #[.int .i64 1, .int .i64 i, .int .u64 a, .int .u64 0, .slice none 0 0, .slice none 0 0], c0, c1] w fun e w' => e = .panicked ch ∧ Q w') :
    Calls Try.prog 97 #[.func (.func F) #[] #[c0, c1], .int .i64 i, .int .u64 a] w fun e w' => e = .panicked ch ∧ Q w' := by
  have hb : ∀ (W : World) (x y z : Int), (Instr.build 33 #[(0, .int .i64 x), (1, .int .i64 y), (2, .int .u64 z)]).run Try.prog W = .ok (.agg #[.int .i64 x, .int .i64 y, .int .u64 z, .int .u64 0, .slice none 0 0, .slice none 0 0]) W := fun _ _ _ _ => by kernel_rfl
  have hfl : ∀ (W : World) (N : Int) (B : Option Addr) (q c : Nat) (f : Bool), (Instr.field 130 (.agg #[.int .u64 N, .slice B q c, .bool f]) 0).run Try.prog W = .ok (.int .u64 N) W := fun _ _ _ _ _ _ => by kernel_rfl
  go_enter Try.func97, Try.ntmps97
  go_wp2_with fail
  refine h.mono ?_
  rintro e w1 ⟨rfl, hq⟩
  exact ⟨rfl, rfl, hq⟩
set_option maxRecDepth 100000 in
theorem pcas_next (F : FuncId) (c0 c1 : Value) (i a b : Int) (N : Int) (Q : World → Prop) (w : World)
    (hcall : ∀ (args : Array Value) (w : World), (callFunc F args).run Try.prog w = .ok (.enter F args) w)
    (h : Calls Try.prog F #[.agg #[.int .i64 2, .int .i64 i, .int .u64 a, .int .u64 b, .slice none 0 0, .slice none 0 0], c0, c1] w fun e w' => ∃ (B : Option Addr) (q c : Nat) (f : Bool), e = .returned (.agg #[.int .u64 N, .slice B q c, .bool f]) ∧ Q w') :
    Calls Try.prog 99 #[.func (.func F) #[] #[c0, c1], .int .i64 i, .int .u64 a, .int .u64 b] w fun e w' => e = .returned (.bool (N == 1)) ∧ Q w' := by
  have hb : ∀ (W : World) (x y z u : Int), (Instr.build 33 #[(0, .int .i64 x), (1, .int .i64 y), (2, .int .u64 z), (3, .int .u64 u)]).run Try.prog W = .ok (.agg #[.int .i64 x, .int .i64 y, .int .u64 z, .int .u64 u, .slice none 0 0, .slice none 0 0]) W := fun _ _ _ _ _ => by kernel_rfl
  have hfl : ∀ (W : World) (N : Int) (B : Option Addr) (q c : Nat) (f : Bool), (Instr.field 130 (.agg #[.int .u64 N, .slice B q c, .bool f]) 0).run Try.prog W = .ok (.int .u64 N) W := fun _ _ _ _ _ _ => by kernel_rfl
  go_enter Try.func99, Try.ntmps99
  go_wp2_with fail
  refine h.mono ?_
  rintro e w1 ⟨B, q, c, f, rfl, hq⟩
  go_wp2
  go_ret
  exact ⟨rfl, hq⟩
set_option maxRecDepth 100000 in
theorem pcas_stop (F : FuncId) (c0 c1 : Value) (i a b : Int) (ch : List PanicEntry) (Q : World → Prop) (w : World)
    (hcall : ∀ (args : Array Value) (w : World), (callFunc F args).run Try.prog w = .ok (.enter F args) w)
    (h : Calls Try.prog F #[.agg #[.int .i64 2, .int .i64 i, .int .u64 a, .int .u64 b, .slice none 0 0, .slice none 0 0], c0, c1] w fun e w' => e = .panicked ch ∧ Q w') :
    Calls Try.prog 99 #[.func (.func F) #[] #[c0, c1], .int .i64 i, .int .u64 a, .int .u64 b] w fun e w' => e = .panicked ch ∧ Q w' := by
  have hb : ∀ (W : World) (x y z u : Int), (Instr.build 33 #[(0, .int .i64 x), (1, .int .i64 y), (2, .int .u64 z), (3, .int .u64 u)]).run Try.prog W = .ok (.agg #[.int .i64 x, .int .i64 y, .int .u64 z, .int .u64 u, .slice none 0 0, .slice none 0 0]) W := fun _ _ _ _ _ => by kernel_rfl
  have hfl : ∀ (W : World) (N : Int) (B : Option Addr) (q c : Nat) (f : Bool), (Instr.field 130 (.agg #[.int .u64 N, .slice B q c, .bool f]) 0).run Try.prog W = .ok (.int .u64 N) W := fun _ _ _ _ _ _ => by kernel_rfl
  go_enter Try.func99, Try.ntmps99
  go_wp2_with fail
  refine h.mono ?_
  rintro e w1 ⟨rfl, hq⟩
  exact ⟨rfl, rfl, hq⟩
set_option maxRecDepth 100000 in
theorem padd_next (F : FuncId) (c0 c1 : Value) (i a : Int) (N : Int) (Q : World → Prop) (w : World)
    (hcall : ∀ (args : Array Value) (w : World), (callFunc F args).run Try.prog w = .ok (.enter F args) w)
    (h : Calls Try.prog F #[.agg #[.int .i64 3, .int .i64 i, .int .u64 a, .int .u64 0, .slice none 0 0, .slice none 0 0], c0, c1] w fun e w' => ∃ (B : Option Addr) (q c : Nat) (f : Bool), e = .returned (.agg #[.int .u64 N, .slice B q c, .bool f]) ∧ Q w') :
    Calls Try.prog 100 #[.func (.func F) #[] #[c0, c1], .int .i64 i, .int .u64 a] w fun e w' => e = .returned (.int .u64 N) ∧ Q w' := by
  have hb : ∀ (W : World) (x y z : Int), (Instr.build 33 #[(0, .int .i64 x), (1, .int .i64 y), (2, .int .u64 z)]).run Try.prog W = .ok (.agg #[.int .i64 x, .int .i64 y, .int .u64 z, .int .u64 0, .slice none 0 0, .slice none 0 0]) W := fun _ _ _ _ => by kernel_rfl
  have hfl : ∀ (W : World) (N : Int) (B : Option Addr) (q c : Nat) (f : Bool), (Instr.field 130 (.agg #[.int .u64 N, .slice B q c, .bool f]) 0).run Try.prog W = .ok (.int .u64 N) W := fun _ _ _ _ _ _ => by kernel_rfl
  go_enter Try.func100, Try.ntmps100
  go_wp2_with fail
  refine h.mono ?_
  rintro e w1 ⟨B, q, c, f, rfl, hq⟩
  go_wp2
  go_ret
  exact ⟨rfl, hq⟩
set_option maxRecDepth 100000 in
theorem padd_stop (F : FuncId) (c0 c1 : Value) (i a : Int) (ch : List PanicEntry) (Q : World → Prop) (w : World)
    (hcall : ∀ (args : Array Value) (w : World), (callFunc F args).run Try.prog w = .ok (.enter F args) w)
    (h : Calls Try.prog F #[.agg #[.int .i64 3, .int .i64 i, .int .u64 a, .int .u64 0, .slice none 0 0, .slice none 0 0], c0, c1] w fun e w' => e = .panicked ch ∧ Q w') :
    Calls Try.prog 100 #[.func (.func F) #[] #[c0, c1], .int .i64 i, .int .u64 a] w fun e w' => e = .panicked ch ∧ Q w' := by
  have hb : ∀ (W : World) (x y z : Int), (Instr.build 33 #[(0, .int .i64 x), (1, .int .i64 y), (2, .int .u64 z)]).run Try.prog W = .ok (.agg #[.int .i64 x, .int .i64 y, .int .u64 z, .int .u64 0, .slice none 0 0, .slice none 0 0]) W := fun _ _ _ _ => by kernel_rfl
  have hfl : ∀ (W : World) (N : Int) (B : Option Addr) (q c : Nat) (f : Bool), (Instr.field 130 (.agg #[.int .u64 N, .slice B q c, .bool f]) 0).run Try.prog W = .ok (.int .u64 N) W := fun _ _ _ _ _ _ => by kernel_rfl
  go_enter Try.func100, Try.ntmps100
  go_wp2_with fail
  refine h.mono ?_
  rintro e w1 ⟨rfl, hq⟩
  exact ⟨rfl, rfl, hq⟩
set_option maxRecDepth 100000 in
theorem pswap_next (F : FuncId) (c0 c1 : Value) (i a : Int) (N : Int) (Q : World → Prop) (w : World)
    (hcall : ∀ (args : Array Value) (w : World), (callFunc F args).run Try.prog w = .ok (.enter F args) w)
    (h : Calls Try.prog F #[.agg #[.int .i64 4, .int .i64 i, .int .u64 a, .int .u64 0, .slice none 0 0, .slice none 0 0], c0, c1] w fun e w' => ∃ (B : Option Addr) (q c : Nat) (f : Bool), e = .returned (.agg #[.int .u64 N, .slice B q c, .bool f]) ∧ Q w') :
    Calls Try.prog 101 #[.func (.func F) #[] #[c0, c1], .int .i64 i, .int .u64 a] w fun e w' => e = .returned (.int .u64 N) ∧ Q w' := by
  have hb : ∀ (W : World) (x y z : Int), (Instr.build 33 #[(0, .int .i64 x), (1, .int .i64 y), (2, .int .u64 z)]).run Try.prog W = .ok (.agg #[.int .i64 x, .int .i64 y, .int .u64 z, .int .u64 0, .slice none 0 0, .slice none 0 0]) W := fun _ _ _ _ => by kernel_rfl
  have hfl : ∀ (W : World) (N : Int) (B : Option Addr) (q c : Nat) (f : Bool), (Instr.field 130 (.agg #[.int .u64 N, .slice B q c, .bool f]) 0).run Try.prog W = .ok (.int .u64 N) W := fun _ _ _ _ _ _ => by kernel_rfl
  go_enter Try.func101, Try.ntmps101
  go_wp2_with fail
  refine h.mono ?_
  rintro e w1 ⟨B, q, c, f, rfl, hq⟩
  go_wp2
  go_ret
  exact ⟨rfl, hq⟩
set_option maxRecDepth 100000 in
theorem pswap_stop (F : FuncId) (c0 c1 : Value) (i a : Int) (ch : List PanicEntry) (Q : World → Prop) (w : World)
    (hcall : ∀ (args : Array Value) (w : World), (callFunc F args).run Try.prog w = .ok (.enter F args) w)
    (h : Calls Try.prog F #[.agg #[.int .i64 4, .int .i64 i, .int .u64 a, .int .u64 0, .slice none 0 0, .slice none 0 0], c0, c1] w fun e w' => e = .panicked ch ∧ Q w') :
    Calls Try.prog 101 #[.func (.func F) #[] #[c0, c1], .int .i64 i, .int .u64 a] w fun e w' => e = .panicked ch ∧ Q w' := by
  have hb : ∀ (W : World) (x y z : Int), (Instr.build 33 #[(0, .int .i64 x), (1, .int .i64 y), (2, .int .u64 z)]).run Try.prog W = .ok (.agg #[.int .i64 x, .int .i64 y, .int .u64 z, .int .u64 0, .slice none 0 0, .slice none 0 0]) W := fun _ _ _ _ => by kernel_rfl
  have hfl : ∀ (W : World) (N : Int) (B : Option Addr) (q c : Nat) (f : Bool), (Instr.field 130 (.agg #[.int .u64 N, .slice B q c, .bool f]) 0).run Try.prog W = .ok (.int .u64 N) W := fun _ _ _ _ _ _ => by kernel_rfl
  go_enter Try.func101, Try.ntmps101
  go_wp2_with fail
  refine h.mono ?_
  rintro e w1 ⟨rfl, hq⟩
  exact ⟨rfl, rfl, hq⟩
end Go.Proofs.Ytkdjmfaodojmfaa
