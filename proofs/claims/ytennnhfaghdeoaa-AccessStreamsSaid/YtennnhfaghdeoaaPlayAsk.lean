import Derived.Test.YtennnhfaghdeoaaPlayLn
import Derived.Test.YtennnhfaghdeoaaStream
import Derived.Test.YtennnhfaghdeoaaWords
namespace Go.Proofs.Ytennnhfaghdeoaa
open Go.RowKit

/-! Are two accesses the same? And two answers? -/
theorem two_boxes (w : World) (o0 o1 : Obj) :
  Ext w ((w.alloc o0).alloc o1) ∧ ((w.alloc o0).alloc o1).heap.size = w.heap.size + 2 ∧ ((w.alloc o0).alloc o1).heap[w.heap.size]? = some o0 ∧ ((w.alloc o0).alloc o1).heap[w.heap.size + 1]? = some o1 := by
 refine ⟨(((Below.refl _ w).alloc (Nat.le_refl _) _).alloc (by simp) _), by simp, ?_, ?_⟩
 ·rw [Below.heap_alloc _ _ _ (by first | (simp; omega) | simp)]
  simpa using heap_alloc_new w o0
 ·simpa using heap_alloc_new (w.alloc o0) o1
/-- its bytes and words may be read -/
structure AccOK (w : World) (x : Acc) : Prop where
 data : ∃ d, BytesV w x.D x.dk x.dc d
 word : ∃ ws, WordsV w x.W x.wk x.wc ws
theorem AccOK.ext {w w' : World} {x : Acc} (h : AccOK w x) (hx : Ext w w') : AccOK w' x := ⟨let ⟨d, hd⟩ := h.data; ⟨d, hd.ext hx⟩, let ⟨d, hd⟩ := h.word; ⟨d, hd.ext hx⟩⟩
theorem AccOK.zero (w : World) : AccOK w Acc.zero := ⟨⟨[], rfl, Nat.le_refl _, Nat.zero_le _, fun _ => rfl, Cells.nil _ _⟩, ⟨[], words_nil w⟩⟩
set_option maxRecDepth 100000 in
set_option maxHeartbeats 4000000 in
theorem asks_yes (x : Acc) (w : World) (hx : AccOK w x) (hn : x.wk ≤ 65536) :
  Calls Try.prog 18 #[.agg x.cells, .agg x.cells] w fun e w' => e = .returned (.bool true) ∧ Ext w w' := by
 obtain ⟨x0, x1, x2, x3, D, dk, dc, A, n, c⟩ := x
 obtain ⟨⟨d, hD⟩, ⟨ws, hA⟩⟩ := hx
 simp only [Acc.cells] at hn ⊢
 simp only at hD hA
 go_enter Try.func18, Try.ntmps18
 go_upto_region 1 with (fail)
 obtain ⟨hW, hsz, hE, hO⟩ := two_boxes w (.cells #[.int .i64 x0, .int .i64 x1, .int .u64 x2, .int .u64 x3, .slice D dk dc, .slice A n c] 42) (.cells #[.int .i64 x0, .int .i64 x1, .int .u64 x2, .int .u64 x3, .slice D dk dc, .slice A n c] 42)
 generalize (w.alloc (.cells #[.int .i64 x0, .int .i64 x1, .int .u64 x2, .int .u64 x3, .slice D dk dc, .slice A n c] 42)).alloc (.cells #[.int .i64 x0, .int .i64 x1, .int .u64 x2, .int .u64 x3, .slice D dk dc, .slice A n c] 42) = W at *
 have e0 : W.cell? ⟨w.heap.size, 0, none⟩ = some (.int .i64 x0) := by simp [World.cell?, hE]
 have e1 : W.cell? ⟨w.heap.size, 1, none⟩ = some (.int .i64 x1) := by simp [World.cell?, hE]
 have e2 : W.cell? ⟨w.heap.size, 2, none⟩ = some (.int .u64 x2) := by simp [World.cell?, hE]
 have e3 : W.cell? ⟨w.heap.size, 3, none⟩ = some (.int .u64 x3) := by simp [World.cell?, hE]
 have e4 : W.cell? ⟨w.heap.size, 4, none⟩ = some (.slice D dk dc) := by simp [World.cell?, hE]
 have e5 : W.cell? ⟨w.heap.size, 5, none⟩ = some (.slice A n c) := by simp [World.cell?, hE]
 have o0 : W.cell? ⟨w.heap.size + 1, 0, none⟩ = some (.int .i64 x0) := by simp [World.cell?, hO]
 have o1 : W.cell? ⟨w.heap.size + 1, 1, none⟩ = some (.int .i64 x1) := by simp [World.cell?, hO]
 have o2 : W.cell? ⟨w.heap.size + 1, 2, none⟩ = some (.int .u64 x2) := by simp [World.cell?, hO]
 have o3 : W.cell? ⟨w.heap.size + 1, 3, none⟩ = some (.int .u64 x3) := by simp [World.cell?, hO]
 have o4 : W.cell? ⟨w.heap.size + 1, 4, none⟩ = some (.slice D dk dc) := by simp [World.cell?, hO]
 have o5 : W.cell? ⟨w.heap.size + 1, 5, none⟩ = some (.slice A n c) := by simp [World.cell?, hO]
 have q1 := run_convert_bytesV (P := Try.prog) (hD.ext hW) Try.underlying40 Try.underlying5 Try.underlying9
 clear hE hO
 go_wp2
 go_loopw [5] (fun i wr => ∃ j : Nat, j ≤ n ∧ i = .int .i64 j ∧ Ext W wr) (fun i _ => n - (intOf i).toNat)
 case atStart => exact ⟨0, Nat.zero_le _, rfl, Ext.refl _⟩
 case round =>
  obtain ⟨j, hj, rfl, hxr⟩ := hrel
  rcases Nat.lt_or_ge j n with hjn | hjn
  ·obtain ⟨a, rfl, ha, -⟩ := hA.at hjn
   generalize ws.getD j 0 = z at ha
   have hX : ∀ wx, Ext wr wx → wx.cell? ⟨w.heap.size, 5, none⟩ = some (.slice (some a) n c) ∧ wx.cell? ⟨w.heap.size + 1, 5, none⟩ = some (.slice (some a) n c) ∧ wx.cell? (a.add j) = some (.int .u64 z) := fun wx h =>
    ⟨(hxr.trans h).cell e5, (hxr.trans h).cell o5, ((hW.trans hxr).trans h).cell ha⟩
   have c5 := hxr.cell e5
   go_wp2_with fail
   refine' wp_region_sure_all ⟨((some 57, [], none) :: (some 58, [0], none) :: (some 59, [], none) :: (some 60, [1, 2], none) :: (some 61, [3], none) :: (some 62, [], none) :: (some 63, [5], none) :: (some 64, [], none) :: (some 65, [6, 7], none) :: (some 66, [8], none) :: (some 67, [4, 9], none) :: []), (0 :: 1 :: 0 :: 7 :: 15 :: 0 :: 32 :: 0 :: 224 :: 480 :: 1023 :: []), (true :: true :: true :: true :: true :: true :: true :: true :: true :: true :: true :: []), [], 0⟩ 11 68 ((0, 57) :: (1, 58) :: (2, 59) :: (3, 60) :: (4, 61) :: (5, 62) :: (6, 63) :: (7, 64) :: (8, 65) :: (9, 66) :: (10, 67) :: []) ((0, 57) :: (1, 58) :: (2, 59) :: (3, 60) :: (4, 61) :: (5, 62) :: (6, 63) :: (7, 64) :: (8, 65) :: (9, 66) :: (10, 67) :: []) (.det _ :: .det _ :: .det _ :: .det _ :: .det _ :: .det _ :: .det _ :: .det _ :: .det _ :: .det _ :: .det _ :: []) (by kernel_rfl) (by kernel_rfl) (by kernel_rfl) rfl (by kernel_rfl) (by kernel_rfl) rfl (by kernel_rfl) ?hone ?hend
   case hone =>
    intro CS frS VS hCS ha hV
    have qs2 := slot_val (t := 2) ha rfl
    simp only [List.getElem_toArray, List.getElem_cons_succ, List.getElem_cons_zero] at qs2
    have qs3 := slot_val (t := 3) ha rfl
    simp only [List.getElem_toArray, List.getElem_cons_succ, List.getElem_cons_zero] at qs3
    have qs5 := slot_val (t := 5) ha rfl
    simp only [List.getElem_toArray, List.getElem_cons_succ, List.getElem_cons_zero] at qs5
    have HCS := Lib.hid hCS
    have HVS := Lib.hid hV
    clear ha hCS hV
    refine sure_det (js := []) (ts := [2]) (gd := none) (place_at HVS.out (k := 0) rfl) (by rw [HCS.out]; kernel_rfl) ?_ ?_
    ·intro wx hx ρ hρ hs hf; have hρc := hρ.const; have hρf := hρ.func
     obtain ⟨fx2, -⟩ := hf; rw [qs2] at fx2
     clear hs
     clear HCS HVS qs2 qs3 qs5
     refine run_plain ?_
     unfold runs
     go_simp
     exact detK.mk
    refine sure_det (js := [(0, 57)]) (ts := []) (gd := none) (place_at HVS.out (k := 1) rfl) (by rw [HCS.out]; kernel_rfl) ?_ ?_
    ·intro wx hx ρ hρ hs hf; have hρc := hρ.const; have hρf := hρ.func; obtain ⟨sn0, -⟩ := hs; rw [place_at HVS.out (k := 0) rfl] at sn0; replace sn0 : ρ (.tmp 57) = _ := sn0
     clear hf
     clear HCS HVS qs2 qs3 qs5
     refine run_plain ?_
     obtain ⟨p0, p1, p2⟩ := hX wx hx.drawn
     unfold runs
     go_simp
     exact detK.mk
    refine sure_det (js := []) (ts := [5]) (gd := none) (place_at HVS.out (k := 2) rfl) (by rw [HCS.out]; kernel_rfl) ?_ ?_
    ·intro wx hx ρ hρ hs hf; have hρc := hρ.const; have hρf := hρ.func
     obtain ⟨fx5, -⟩ := hf; rw [qs5] at fx5
     clear hs
     clear HCS HVS qs2 qs3 qs5
     refine run_plain ?_
     refine op_move rfl fx5 ?_
     exact detK.mk
    refine sure_det (js := [(1, 58), (2, 59)]) (ts := []) (gd := none) (place_at HVS.out (k := 3) rfl) (by rw [HCS.out]; kernel_rfl) ?_ ?_
    ·intro wx hx ρ hρ hs hf; have hρc := hρ.const; have hρf := hρ.func; obtain ⟨sn1, sn2, -⟩ := hs; rw [place_at HVS.out (k := 1) rfl] at sn1; replace sn1 : ρ (.tmp 58) = _ := sn1; rw [place_at HVS.out (k := 2) rfl] at sn2; replace sn2 : ρ (.tmp 59) = _ := sn2
     clear hf
     clear HCS HVS qs2 qs3 qs5
     refine run_plain ?_
     unfold runs
     go_simp
     exact detK.mk
    refine sure_det (js := [(3, 60)]) (ts := []) (gd := none) (place_at HVS.out (k := 4) rfl) (by rw [HCS.out]; kernel_rfl) ?_ ?_
    ·intro wx hx ρ hρ hs hf; have hρc := hρ.const; have hρf := hρ.func; obtain ⟨sn3, -⟩ := hs; rw [place_at HVS.out (k := 3) rfl] at sn3; replace sn3 : ρ (.tmp 60) = _ := sn3
     clear hf
     clear HCS HVS qs2 qs3 qs5
     refine run_plain ?_
     obtain ⟨p0, p1, p2⟩ := hX wx hx.drawn
     unfold runs
     go_simp
     exact detK.mk
    refine sure_det (js := []) (ts := [3]) (gd := none) (place_at HVS.out (k := 5) rfl) (by rw [HCS.out]; kernel_rfl) ?_ ?_
    ·intro wx hx ρ hρ hs hf; have hρc := hρ.const; have hρf := hρ.func
     obtain ⟨fx3, -⟩ := hf; rw [qs3] at fx3
     clear hs
     clear HCS HVS qs2 qs3 qs5
     refine run_plain ?_
     unfold runs
     go_simp
     exact detK.mk
    refine sure_det (js := [(5, 62)]) (ts := []) (gd := none) (place_at HVS.out (k := 6) rfl) (by rw [HCS.out]; kernel_rfl) ?_ ?_
    ·intro wx hx ρ hρ hs hf; have hρc := hρ.const; have hρf := hρ.func; obtain ⟨sn5, -⟩ := hs; rw [place_at HVS.out (k := 5) rfl] at sn5; replace sn5 : ρ (.tmp 62) = _ := sn5
     clear hf
     clear HCS HVS qs2 qs3 qs5
     refine run_plain ?_
     obtain ⟨p0, p1, p2⟩ := hX wx hx.drawn
     unfold runs
     go_simp
     exact detK.mk
    refine sure_det (js := []) (ts := [5]) (gd := none) (place_at HVS.out (k := 7) rfl) (by rw [HCS.out]; kernel_rfl) ?_ ?_
    ·intro wx hx ρ hρ hs hf; have hρc := hρ.const; have hρf := hρ.func
     obtain ⟨fx5, -⟩ := hf; rw [qs5] at fx5
     clear hs
     clear HCS HVS qs2 qs3 qs5
     refine run_plain ?_
     refine op_move rfl fx5 ?_
     exact detK.mk
    refine sure_det (js := [(6, 63), (7, 64)]) (ts := []) (gd := none) (place_at HVS.out (k := 8) rfl) (by rw [HCS.out]; kernel_rfl) ?_ ?_
    ·intro wx hx ρ hρ hs hf; have hρc := hρ.const; have hρf := hρ.func; obtain ⟨sn6, sn7, -⟩ := hs; rw [place_at HVS.out (k := 6) rfl] at sn6; replace sn6 : ρ (.tmp 63) = _ := sn6; rw [place_at HVS.out (k := 7) rfl] at sn7; replace sn7 : ρ (.tmp 64) = _ := sn7
     clear hf
     clear HCS HVS qs2 qs3 qs5
     refine run_plain ?_
     unfold runs
     go_simp
     exact detK.mk
    refine sure_det (js := [(8, 65)]) (ts := []) (gd := none) (place_at HVS.out (k := 9) rfl) (by rw [HCS.out]; kernel_rfl) ?_ ?_
    ·intro wx hx ρ hρ hs hf; have hρc := hρ.const; have hρf := hρ.func; obtain ⟨sn8, -⟩ := hs; rw [place_at HVS.out (k := 8) rfl] at sn8; replace sn8 : ρ (.tmp 65) = _ := sn8
     clear hf
     clear HCS HVS qs2 qs3 qs5
     refine run_plain ?_
     obtain ⟨p0, p1, p2⟩ := hX wx hx.drawn
     unfold runs
     go_simp
     exact detK.mk
    refine sure_det (js := [(4, 61), (9, 66)]) (ts := []) (gd := none) (place_at HVS.out (k := 10) rfl) (by rw [HCS.out]; kernel_rfl) ?_ ?_
    ·intro wx hx ρ hρ hs hf; have hρc := hρ.const; have hρf := hρ.func; obtain ⟨sn4, sn9, -⟩ := hs; rw [place_at HVS.out (k := 4) rfl] at sn4; replace sn4 : ρ (.tmp 61) = _ := sn4; rw [place_at HVS.out (k := 9) rfl] at sn9; replace sn9 : ρ (.tmp 66) = _ := sn9
     clear hf
     clear HCS HVS qs2 qs3 qs5
     refine run_plain ?_
     unfold runs
     go_simp
     exact detK.mk
    exact trivial
   case hend =>
    intro xs wx hx hg
    have gk0 : xs 0 = _ := goods_get hg (i := 0) (j := 0) (d := 57) rfl
    have gk1 : xs 1 = _ := goods_get hg (i := 1) (j := 1) (d := 58) rfl
    have gk2 : xs 2 = _ := goods_get hg (i := 2) (j := 2) (d := 59) rfl
    have gk3 : xs 3 = _ := goods_get hg (i := 3) (j := 3) (d := 60) rfl
    have gk4 : xs 4 = _ := goods_get hg (i := 4) (j := 4) (d := 61) rfl
    have gk5 : xs 5 = _ := goods_get hg (i := 5) (j := 5) (d := 62) rfl
    have gk6 : xs 6 = _ := goods_get hg (i := 6) (j := 6) (d := 63) rfl
    have gk7 : xs 7 = _ := goods_get hg (i := 7) (j := 7) (d := 64) rfl
    have gk8 : xs 8 = _ := goods_get hg (i := 8) (j := 8) (d := 65) rfl
    have gk9 : xs 9 = _ := goods_get hg (i := 9) (j := 9) (d := 66) rfl
    have gk10 : xs 10 = _ := goods_get hg (i := 10) (j := 10) (d := 67) rfl
    clear hg
    simp only [putAll, gk0, gk1, gk2, gk3, gk4, gk5, gk6, gk7, gk8, gk9, gk10]
    clear gk0 gk1 gk2 gk3 gk4 gk5 gk6 gk7 gk8 gk9 gk10
    clear xs
    simp only [Act.put, List.setIfInBounds_toArray, List.set_cons_zero, List.set_cons_succ]
    go_wp2
    go_roundw
    case rel => exact ⟨j + 1, by omega, by go_num, hxr.trans hx.drawn⟩
    case measure => simp [intOf]; omega
  ·have c5 := hxr.cell e5
   go_wp2
   go_ret
   exact ⟨rfl, hW.trans hxr⟩
set_option maxRecDepth 100000 in
set_option maxHeartbeats 4000000 in
theorem outs_yes (o : OutN) (w : World) :
  Calls Try.prog 21 #[.agg o.cells, .agg o.cells] w fun e w' => e = .returned (.bool true) ∧ Ext w w' := by
 obtain ⟨x0, x1, x2, x3⟩ := o
 simp only [OutN.cells]
 go_enter Try.func21, Try.ntmps21
 go_upto_region 1 with (fail)
 obtain ⟨hW, hsz, hE, hO⟩ := two_boxes w (.cells #[.int .i64 x0, .bool x1, .int .i64 x2, .int .u64 x3, .slice none 0 0] 46) (.cells #[.int .i64 x0, .bool x1, .int .i64 x2, .int .u64 x3, .slice none 0 0] 46)
 generalize (w.alloc (.cells #[.int .i64 x0, .bool x1, .int .i64 x2, .int .u64 x3, .slice none 0 0] 46)).alloc (.cells #[.int .i64 x0, .bool x1, .int .i64 x2, .int .u64 x3, .slice none 0 0] 46) = W at *
 have e0 : W.cell? ⟨w.heap.size, 0, none⟩ = some (.int .i64 x0) := by simp [World.cell?, hE]
 have e1 : W.cell? ⟨w.heap.size, 1, none⟩ = some (.bool x1) := by simp [World.cell?, hE]
 have e2 : W.cell? ⟨w.heap.size, 2, none⟩ = some (.int .i64 x2) := by simp [World.cell?, hE]
 have e3 : W.cell? ⟨w.heap.size, 3, none⟩ = some (.int .u64 x3) := by simp [World.cell?, hE]
 have e4 : W.cell? ⟨w.heap.size, 4, none⟩ = some (.slice none 0 0) := by simp [World.cell?, hE]
 have o0 : W.cell? ⟨w.heap.size + 1, 0, none⟩ = some (.int .i64 x0) := by simp [World.cell?, hO]
 have o1 : W.cell? ⟨w.heap.size + 1, 1, none⟩ = some (.bool x1) := by simp [World.cell?, hO]
 have o2 : W.cell? ⟨w.heap.size + 1, 2, none⟩ = some (.int .i64 x2) := by simp [World.cell?, hO]
 have o3 : W.cell? ⟨w.heap.size + 1, 3, none⟩ = some (.int .u64 x3) := by simp [World.cell?, hO]
 have o4 : W.cell? ⟨w.heap.size + 1, 4, none⟩ = some (.slice none 0 0) := by simp [World.cell?, hO]
 clear hE hO
 go_wp2
 go_loopw [5] (fun i wr => i = .int .i64 0 ∧ wr = W) (fun i _ => 0)
 case atStart => exact ⟨rfl, rfl⟩
 case round =>
  obtain ⟨rfl, rfl⟩ := hrel
  go_wp2
  go_ret
  exact ⟨rfl, hW⟩
/-- are accesses few, of few bytes and words? -/
def fewL (l : List Acc) (m : Nat) : Prop := l.length ≤ m ∧ ∀ (j : Nat) (x : Acc), l[j]? = some x → x.dk ≤ 100 ∧ x.wk ≤ 100
def FewE (l : List Acc) (m : Nat) (e : Ending) : Prop := ∃ b : Bool, e = .returned (.bool b) ∧ (b = true → fewL l m)
set_option maxRecDepth 100000 in
set_option maxHeartbeats 4000000 in
theorem few_any (A : Option Addr) (n c m : Nat) (l : List Acc) (w : World) (hl : AccsV w A n c l) (hn : n ≤ 9223372036854775807) (hm : m ≤ 65536) (hsz : ∀ (j : Nat) (x : Acc), l[j]? = some x → x.dk ≤ 9223372036854775807 ∧ x.wk ≤ 9223372036854775807) :
  Calls Try.prog 15 #[.slice A n c, .int .i64 m] w fun e w' => FewE l m e ∧ Ext w w' := by
 have hlen : l.length = n := hl.len
 rcases Nat.lt_or_ge m n with hmn | hmn
 ·go_enter Try.func15, Try.ntmps15
  go_wp2
  go_ret
  exact ⟨⟨false, rfl, fun h => by cases h⟩, Ext.refl _⟩
 ·go_enter Try.func15, Try.ntmps15
  go_wp2
  go_loopw [5] (fun i wr => ∃ j : Nat, j ≤ n ∧ i = .int .i64 j ∧ (∀ (k : Nat) (x : Acc), k < j → l[k]? = some x → x.dk ≤ 100 ∧ x.wk ≤ 100) ∧ wr = w) (fun i _ => n - (intOf i).toNat)
  case atStart => exact ⟨0, Nat.zero_le _, rfl, fun k x hk => absurd hk (Nat.not_lt_zero _), rfl⟩
  case round =>
   obtain ⟨j, hj, rfl, hall, rfl⟩ := hrel
   rcases Nat.lt_or_ge j n with hjn | hjn
   ·obtain ⟨a, rfl, hxa⟩ := hl.at_ j (l[j]'(by rw [hl.len]; exact hjn)) (List.getElem?_eq_getElem _)
    have hlx : l[j]? = some (l[j]'(by rw [hl.len]; exact hjn)) := List.getElem?_eq_getElem _
    have hbd := hsz j _ hlx
    generalize (l[j]'(by rw [hl.len]; exact hjn)) = x at *
    obtain ⟨x0, x1, x2, x3, x4, x5, x6, x7, x8, x9⟩ := x
    have y4 := hxa 4 (.slice x4 x5 x6) rfl
    rw [show ((a.add (j * 6)).add 4) = ⟨(a.add (j * 6)).block, (a.add (j * 6)).off + 4, none⟩ from rfl] at y4
    have y5 := hxa 5 (.slice x7 x8 x9) rfl
    rw [show ((a.add (j * 6)).add 5) = ⟨(a.add (j * 6)).block, (a.add (j * 6)).off + 5, none⟩ from rfl] at y5
    simp only at hbd
    have hw5 : IntKind.i64.wrap (x5 : Int) = (x5 : Int) := by rw [IntKind.wrap_i64]; omega
    have hw8 : IntKind.i64.wrap (x8 : Int) = (x8 : Int) := by rw [IntKind.wrap_i64]; omega
    by_cases h5 : x5 ≤ 100
    ·by_cases h8 : x8 ≤ 100
     ·have h5' : ¬ (100 : Int) < (x5 : Int) := by omega
      have h8' : ¬ (100 : Int) < (x8 : Int) := by omega
      go_wp2
      go_roundw
      case rel =>
       refine ⟨j + 1, by omega, by go_num, fun k x hk hx => ?_, by trivial⟩
       rcases Nat.lt_or_ge k j with h | h
       ·exact hall k x h hx
       ·obtain rfl : k = j := by omega
        rw [hlx] at hx
        cases hx
        exact ⟨h5, h8⟩
      case measure => simp [intOf]; omega
     ·have h5' : ¬ (100 : Int) < (x5 : Int) := by omega
      have h8' : (100 : Int) < (x8 : Int) := by omega
      go_wp2
      go_ret
      exact ⟨⟨false, rfl, fun h => by cases h⟩, Ext.refl _⟩
    ·have h5' : (100 : Int) < (x5 : Int) := by omega
     go_wp2
     go_ret
     exact ⟨⟨false, rfl, fun h => by cases h⟩, Ext.refl _⟩
   ·go_wp2
    go_ret
    exact ⟨⟨true, rfl, fun _ => ⟨by omega, fun k x hx => hall k x (by have := (List.getElem?_eq_some_iff.1 hx).1; omega) hx⟩⟩, Ext.refl _⟩
end Go.Proofs.Ytennnhfaghdeoaa
