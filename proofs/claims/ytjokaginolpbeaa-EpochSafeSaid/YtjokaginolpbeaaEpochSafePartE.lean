import Derived.Test.YtjokaginolpbeaaEpochSafePartD
import Derived.Deep.CutRange
import Derived.Test.YtjokaginolpbeaaEpochSafePartB
import Derived.Test.YtjokaginolpbeaaEpochSafePartA
import Derived.Lib.Hide
import Derived.Tactics
import Derived.RegionTactic
import Derived.Tactics2
import Derived.Defers
import Derived.Recover
import Derived.Laws.Pointers
import Derived.LoopTactic
import Derived.Maps.AppendAt
import Derived.Test.YtjokaginolpbeaaRows
import Derived.WalkKit
import Derived.ProofKit
import Derived.OpenShut
import Derived.Carry
import Derived.Below
import Derived.Lib.SmallJoins
import Derived.ChangeSlices
import Derived.SizedLaws
import Derived.Lib.SlBytesConst
import Derived.Test.YtjokaginolpbeaaChecked
import Derived.Outline
import Derived.ScopeJumps
import Derived.WalkMore
namespace Go.Proofs.Ytjokaginolpbeaa
open Go.RowKit

/-! wealdref09. -/
theorem newI_made {L : Nat} {t c : Int} {C : Array Value} (w : World) (hC : C = madeCells #[.int .u64 0] L) :
  NewI 45 w L t c (fun _ => 0) (((w.alloc (.cells #[.int .i64 0, .int .i64 0, .slice none 0 0] 45)).alloc (.cells C 22)).alloc (.cells #[.int .i64 t, .int .i64 c, .slice (some ⟨w.heap.size + 1, 0, none⟩) L L] 45)) := by
 refine ⟨((((Below.refl _ w).alloc (Nat.le_refl _) _).alloc (by simp) _).alloc (by simp; omega) _), WordsAt.made (C := C) (e := 22) ?_ hC, ?_, ?_⟩
 ·rw [Below.heap_alloc _ _ _ (by simp)]
  simpa using heap_alloc_new (w.alloc (.cells #[.int .i64 0, .int .i64 0, .slice none 0 0] 45)) (.cells C 22)
 ·rw [Below.heap_alloc _ _ _ (by simp; omega), Below.heap_alloc _ _ _ (by simp)]
  exact heap_alloc_new w _
 ·simpa using heap_alloc_new ((w.alloc (.cells #[.int .i64 0, .int .i64 0, .slice none 0 0] 45)).alloc (.cells C 22)) (.cells #[.int .i64 t, .int .i64 c, .slice (some ⟨w.heap.size + 1, 0, none⟩) L L] 45)
theorem rfield_any (t r f : Int) (h1 : -1000000 ≤ t) (h2 : t ≤ 1000000) (h3 : -100000 ≤ r) (h4 : r ≤ 2000000) (h5 : -1000000 ≤ f) (h6 : f ≤ 1000000) (w : World) :
  Calls Try.prog 66 #[.int .i64 t, .int .i64 r, .int .i64 f] w fun e w' => e = .returned (.int .i64 (8 + t + 8 * (r - 1) + f)) ∧ w = w' := by
 go_enter Try.func66, Try.ntmps66
 go_wp2
 go_ret
 exact ⟨rfl, rfl⟩
theorem rfield_link (t r : Nat) (h1 : 1 ≤ r) (ht : t ≤ 64) (hr : r ≤ 65536) (w : World) :
  Calls Try.prog 66 #[.int .i64 t, .int .i64 r, .int .i64 7] w fun e w' => e = .returned (.int .i64 (linkAt t r : Nat)) ∧ w = w' :=
 (rfield_any t r 7 (by omega) (by omega) (by omega) (by omega) (by omega) (by omega) w).mono fun _ _ ⟨he, hw⟩ => ⟨by rw [he]; congr 2; unfold linkAt; omega, hw⟩
set_option maxRecDepth 100000 in
set_option maxHeartbeats 4000000 in
theorem rnew_yes (t c : Nat) (ht1 : 1 ≤ t) (ht2 : t ≤ 64) (hc : c ≤ 65536) (w : World) :
  Calls Try.prog 59 #[.int .i64 t, .int .i64 c] w fun e w' => ∃ g, e = .returned (.tuple #[.agg #[.int .i64 t, .int .i64 c, .slice (some ⟨g, 0, none⟩) (memL t c) (memL t c)], .int .i64 0]) ∧ w.heap.size ≤ g ∧ WordsAt w' g (memL t c) (newF t c c) ∧ Ext w w' := by
 obtain ⟨i0, hi0, hz0, hz1, hz2⟩ := info_parts info_u64
 have hL : memL t c ≤ 1000000 := by unfold memL; omega
 have hLe : (8 + (t : Int) + 8 * (c : Int)) = ((memL t c : Nat) : Int) := by unfold memL; omega
 have hL1 : 1 < memL t c := by unfold memL; omega
 generalize hC : madeCells (Value.int .u64 0).cells (memL t c) = C
 have HC := Lib.hid hC
 have hmk : ∀ W, (Instr.makeSlice 31 (.int .i64 ((memL t c : Nat) : Int)) (.int .i64 ((memL t c : Nat) : Int))).run Try.prog W = .ok (.slice (some ⟨W.heap.size, 0, none⟩) (memL t c) (memL t c)) (W.alloc (.cells C 22)) := fun W => by
  have := run_make (P := Try.prog) W 31 22 i0 _ Try.underlying31 hi0 hz0 .i64 .i64 ((memL t c : Nat) : Int) ((memL t c : Nat) : Int) (by omega) (Int.le_refl _) (by rw [hz2]; omega) (by omega)
  simp only [Int.toNat_natCast, hz1, Nat.mul_one] at this
  rw [this, ← HC.out]
 clear hC
 generalize hLL : memL t c = L at *
 have HLL := Lib.hid hLL
 have HLe := Lib.hid hLe
 clear hLL
 rcases Nat.eq_zero_or_pos c with hc0 | hc1
 ·have hc0' : ¬ (0 : Int) < (c : Int) := by omega
  have hone : ¬ (1 : Int) < (c : Int) := by omega
  have H0 := Lib.hid hc0
  clear hc0
  go_enter Try.func59, Try.ntmps59
  go_wp2_with fail
  have hI : NewI 45 w L t c (fun _ => 0) (((w.alloc (.cells #[.int .i64 0, .int .i64 0, .slice none 0 0] 45)).alloc (.cells C 22)).alloc (.cells #[.int .i64 t, .int .i64 c, .slice (some ⟨w.heap.size + 1, 0, none⟩) L L] 45)) := newI_made w HC.out.symm
  generalize ((w.alloc (.cells #[.int .i64 0, .int .i64 0, .slice none 0 0] 45)).alloc (.cells C 22)).alloc (.cells #[.int .i64 t, .int .i64 c, .slice (some ⟨w.heap.size + 1, 0, none⟩) L L] 45) = W at *
  have hN : NewI 45 w L t c (newF t c c) W := hI.congr fun i _ => by rw [H0.out]; unfold newF; simp
  clear hmk hLe hi0 hz0 hz1 hz2 hI
  obtain ⟨e0, e1, e2⟩ := hN.cells
  obtain ⟨d0, d1, d2, f0, f1, f2⟩ := hN.out
  refine wp_loop_rounds 1 ?_
  rw [rounds_succ]
  go_wp2
  refine bodyPost_ret (v := .tuple #[.agg #[.int .i64 t, .int .i64 c, .slice (some ⟨w.heap.size + 1, 0, none⟩) L L], .int .i64 0]) (by simp [results, Try.results59, go_sem, d0, d1, d2]) rfl ⟨w.heap.size + 1, rfl, by omega, ?_, ?_⟩
  ·exact ((hN.row.other (by simp) _).other (by simp) _).other (by simp) _
  ·exact ((hN.ext.setCell (by simp) _).setCell (by simp) _).setCell (by simp) _
 ·go_enter Try.func59, Try.ntmps59
  go_upto_region 5 with (fail)
  have hI : NewI 45 w L t c (fun _ => 0) (((w.alloc (.cells #[.int .i64 0, .int .i64 0, .slice none 0 0] 45)).alloc (.cells C 22)).alloc (.cells #[.int .i64 t, .int .i64 c, .slice (some ⟨w.heap.size + 1, 0, none⟩) L L] 45)) := newI_made w HC.out.symm
  generalize ((w.alloc (.cells #[.int .i64 0, .int .i64 0, .slice none 0 0] 45)).alloc (.cells C 22)).alloc (.cells #[.int .i64 t, .int .i64 c, .slice (some ⟨w.heap.size + 1, 0, none⟩) L L] 45) = W at *
  have hI1 : NewI 45 w L t c (newF t c 1) (W.setCell ⟨w.heap.size + 1, 1, none⟩ (.int .u64 1)) := (hI.set hL1 1).congr fun i _ => by
   rw [newF_zero]
   split
   ·rw [show min c 1 = 1 by omega]; rfl
   ·rfl
  obtain ⟨e0, e1, e2⟩ := hI.cells
  obtain ⟨x1, x2⟩ := hI.at hL1
  clear hmk hLe hi0 hz0 hz1 hz2 hI
  go_wp2
  clear x1 x2 e0 e1 e2
  go_loopw [7] (fun i wr => ∃ r : Nat, 1 ≤ r ∧ r ≤ c ∧ i = .int .i64 r ∧ NewI 45 w L t c (newF t c r) wr) (fun i _ => c - (intOf i).toNat)
  case atStart => exact ⟨1, Nat.le_refl _, hc1, rfl, hI1⟩
  case round =>
   obtain ⟨r, hr1, hr, rfl, hN⟩ := hrel
   rcases Nat.lt_or_ge r c with hrc | hrc
   ·have hlk : linkAt t r < L := by rw [← HLL.out]; exact linkAt_lt hr1 (by omega)
    have hfield := fun W => rfield_link t r hr1 ht2 (by omega) W
    have hstep := fun i => newF_step (t := t) (c := c) hr1 i
    generalize hj : linkAt t r = j at *
    clear hj hI1
    go_wp2_with fail
    refine' wp_region_sure ⟨((some 42, [], none) :: (some 43, [0], none) :: (some 44, [], none) :: (some 45, [], none) :: (some 46, [2, 3], none) :: (some 47, [], none) :: (some 48, [5], none) :: (some 49, [6], none) :: (some 50, [1, 4, 0, 1, 2, 3, 4, 5, 6, 7], none) :: (none, [8, 7, 4, 0, 1, 2, 3, 4, 5, 6, 7], none) :: []), (0 :: 1 :: 0 :: 0 :: 12 :: 0 :: 32 :: 96 :: 255 :: 511 :: []), (true :: true :: true :: true :: true :: true :: true :: true :: []), [], 0⟩ 8 52 ((0, 42) :: (1, 43) :: (2, 44) :: (3, 45) :: (4, 46) :: (5, 47) :: (6, 48) :: (7, 49) :: []) ((0, 42) :: (1, 43) :: (2, 44) :: (3, 45) :: (4, 46) :: (5, 47) :: (6, 48) :: (7, 49) :: []) (.det _ :: .det _ :: .det _ :: .det _ :: .det _ :: .det _ :: .det _ :: .det _ :: []) (by kernel_rfl) (by kernel_rfl) (by kernel_rfl) rfl (by kernel_rfl) (by kernel_rfl) rfl ?hone ?hend
    case hone =>
     intro CS frS VS hCS ha hV
     have qs0 := slot_val (t := 0) ha rfl
     simp only [List.getElem_toArray, List.getElem_cons_succ, List.getElem_cons_zero] at qs0
     have qs6 := slot_val (t := 6) ha rfl
     simp only [List.getElem_toArray, List.getElem_cons_succ, List.getElem_cons_zero] at qs6
     have qs7 := slot_val (t := 7) ha rfl
     simp only [List.getElem_toArray, List.getElem_cons_succ, List.getElem_cons_zero] at qs7
     have HCS := Lib.hid hCS
     have HVS := Lib.hid hV
     clear ha hCS hV
     refine sure_det (js := []) (ts := [6]) (gd := none) (place_at HVS.out (k := 0) rfl) (by rw [HCS.out]; kernel_rfl) ?_ ?_
     ·intro wx hx ρ hρ hs hf; have hρc := hρ.const; have hρf := hρ.func
      obtain ⟨fx6, -⟩ := hf; rw [qs6] at fx6
      clear hs
      clear HCS HVS qs0 qs6 qs7
      refine run_plain ?_
      unfold runs
      go_simp
      exact detK.mk
     refine sure_det (js := [(0, 42)]) (ts := []) (gd := none) (place_at HVS.out (k := 1) rfl) (by rw [HCS.out]; kernel_rfl) ?_ ?_
     ·intro wx hx ρ hρ hs hf; have hρc := hρ.const; have hρf := hρ.func; obtain ⟨sn0, -⟩ := hs; rw [place_at HVS.out (k := 0) rfl] at sn0; replace sn0 : ρ (.tmp 42) = _ := sn0
      clear hf
      clear HCS HVS qs0 qs6 qs7
      refine run_plain ?_
      obtain ⟨e0, e1, e2⟩ := (hN.on hx.drawn).cells
      unfold runs
      go_simp
      exact detK.mk
     refine sure_det (js := []) (ts := [0]) (gd := none) (place_at HVS.out (k := 2) rfl) (by rw [HCS.out]; kernel_rfl) ?_ ?_
     ·intro wx hx ρ hρ hs hf; have hρc := hρ.const; have hρf := hρ.func
      obtain ⟨fx0, -⟩ := hf; rw [qs0] at fx0
      clear hs
      clear HCS HVS qs0 qs6 qs7
      refine run_plain ?_
      refine op_move rfl fx0 ?_
      exact detK.mk
     refine sure_det (js := []) (ts := [7]) (gd := none) (place_at HVS.out (k := 3) rfl) (by rw [HCS.out]; kernel_rfl) ?_ ?_
     ·intro wx hx ρ hρ hs hf; have hρc := hρ.const; have hρf := hρ.func
      obtain ⟨fx7, -⟩ := hf; rw [qs7] at fx7
      clear hs
      clear HCS HVS qs0 qs6 qs7
      refine run_plain ?_
      refine op_move rfl fx7 ?_
      exact detK.mk
     refine sure_det (js := [(2, 44), (3, 45)]) (ts := []) (gd := none) (place_at HVS.out (k := 4) rfl) (by rw [HCS.out]; kernel_rfl) ?_ ?_
     ·intro wx hx ρ hρ hs hf; have hρc := hρ.const; have hρf := hρ.func; obtain ⟨sn2, sn3, -⟩ := hs; rw [place_at HVS.out (k := 2) rfl] at sn2; replace sn2 : ρ (.tmp 44) = _ := sn2; rw [place_at HVS.out (k := 3) rfl] at sn3; replace sn3 : ρ (.tmp 45) = _ := sn3
      clear hf
      clear HCS HVS qs0 qs6 qs7
      refine run_plain ?_
      refine op_call rfl hρ Try.call66 (map_three sn2 sn3 (hρ.const _)) ?_
      refine Calls.mono (hfield _) ?_; rintro e w' ⟨rfl, rfl⟩; refine ⟨_, rfl, ?_⟩; exact detK.mk
     refine sure_det (js := []) (ts := [7]) (gd := none) (place_at HVS.out (k := 5) rfl) (by rw [HCS.out]; kernel_rfl) ?_ ?_
     ·intro wx hx ρ hρ hs hf; have hρc := hρ.const; have hρf := hρ.func
      obtain ⟨fx7, -⟩ := hf; rw [qs7] at fx7
      clear hs
      clear HCS HVS qs0 qs6 qs7
      refine run_plain ?_
      refine op_move rfl fx7 ?_
      exact detK.mk
     refine sure_det (js := [(5, 47)]) (ts := []) (gd := none) (place_at HVS.out (k := 6) rfl) (by rw [HCS.out]; kernel_rfl) ?_ ?_
     ·intro wx hx ρ hρ hs hf; have hρc := hρ.const; have hρf := hρ.func; obtain ⟨sn5, -⟩ := hs; rw [place_at HVS.out (k := 5) rfl] at sn5; replace sn5 : ρ (.tmp 47) = _ := sn5
      clear hf
      clear HCS HVS qs0 qs6 qs7
      refine run_plain ?_
      unfold runs
      go_simp
      exact detK.mk
     refine sure_det (js := [(6, 48)]) (ts := []) (gd := none) (place_at HVS.out (k := 7) rfl) (by rw [HCS.out]; kernel_rfl) ?_ ?_
     ·intro wx hx ρ hρ hs hf; have hρc := hρ.const; have hρf := hρ.func; obtain ⟨sn6, -⟩ := hs; rw [place_at HVS.out (k := 6) rfl] at sn6; replace sn6 : ρ (.tmp 48) = _ := sn6
      clear hf
      clear HCS HVS qs0 qs6 qs7
      refine run_plain ?_
      unfold runs
      go_simp
      exact detK.mk
     exact trivial
    case hend =>
     intro xs wx hx hg
     have gk0 : xs 0 = _ := goods_get hg (i := 0) (j := 0) (d := 42) rfl
     have gk1 : xs 1 = _ := goods_get hg (i := 1) (j := 1) (d := 43) rfl
     have gk2 : xs 2 = _ := goods_get hg (i := 2) (j := 2) (d := 44) rfl
     have gk3 : xs 3 = _ := goods_get hg (i := 3) (j := 3) (d := 45) rfl
     have gk4 : xs 4 = _ := goods_get hg (i := 4) (j := 4) (d := 46) rfl
     have gk5 : xs 5 = _ := goods_get hg (i := 5) (j := 5) (d := 47) rfl
     have gk6 : xs 6 = _ := goods_get hg (i := 6) (j := 6) (d := 48) rfl
     have gk7 : xs 7 = _ := goods_get hg (i := 7) (j := 7) (d := 49) rfl
     clear hg
     simp only [putAll, gk0, gk1, gk2, gk3, gk4, gk5, gk6, gk7]
     clear gk0 gk1 gk2 gk3 gk4 gk5 gk6 gk7
     clear xs
     simp only [Act.put, List.setIfInBounds_toArray, List.set_cons_zero, List.set_cons_succ, List.drop_succ_cons, List.drop_zero]
     obtain ⟨x1, x2⟩ := (hN.on hx.drawn).at hlk
     go_wp2
     have hN2 := ((hN.on hx.drawn).set hlk ((r + 1 : Nat) : Int)).congr fun i _ => (hstep i).symm
     go_roundw
     case rel => exact ⟨r + 1, by omega, by omega, by go_num, by simpa using hN2⟩
     case measure => simp [intOf]; omega
   ·obtain rfl : r = c := by omega
    obtain ⟨e0, e1, e2⟩ := hN.cells
    obtain ⟨d0, d1, d2, f0, f1, f2⟩ := hN.out
    go_wp2
    refine bodyPost_ret (v := .tuple #[.agg #[.int .i64 t, .int .i64 r, .slice (some ⟨w.heap.size + 1, 0, none⟩) L L], .int .i64 0]) (by simp [results, Try.results59, go_sem, d0, d1, d2]) rfl ⟨w.heap.size + 1, rfl, by omega, ?_, ?_⟩
    ·exact ((hN.row.other (by simp) _).other (by simp) _).other (by simp) _
    ·exact ((hN.ext.setCell (by simp) _).setCell (by simp) _).setCell (by simp) _
end Go.Proofs.Ytjokaginolpbeaa

namespace Go.Proofs.Ytjokaginolpbeaa
open Go.RowKit

/-! wealdref07: Few, with what it sums. -/
def sumQ : List St → Nat
  | [] => 0
  | s :: l => s.q + sumQ l
theorem sumQ_mem : ∀ {l : List St} {s : St}, s ∈ l → s.q ≤ sumQ l
  | x :: l, s, h => by
    simp only [sumQ]
    rcases List.mem_cons.1 h with rfl | h
    · omega
    · have := sumQ_mem h; omega
end Go.Proofs.Ytjokaginolpbeaa

namespace Go.Proofs.Ytjokaginolpbeaa
open Go.RowKit

/-! Which worlds are right, and small. -/
def rightW (T C : Int) (q n0 n1 : Nat) (l0 l1 : List St) : Bool := rightM T C q && (rightD n0 n1 l0 l1 && ((n0 : Int) == T))
end Go.Proofs.Ytjokaginolpbeaa

namespace Go.Proofs.Ytjokaginolpbeaa
open Go.RowKit

/-! wealdref10.New. -/
def newW (t c : Nat) : WldK := ⟨(t : Int), (c : Int), (List.range (memL t c)).map (newF t c c), 0, newN (t : Int), List.replicate (newN (t : Int)) ([], 0), List.replicate (newN (t : Int)) ([], 0)⟩
set_option maxRecDepth 100000 in
set_option maxHeartbeats 1000000 in
theorem ranew_yes (t c : Nat) (ht1 : 1 ≤ t) (ht2 : t ≤ 64) (hc : c ≤ 65536) (w : World) :
    Calls Try.prog 21 #[.int .i64 t, .int .i64 c] w fun e w' => ∃ v', e = .returned v' ∧ WldV w' v' (newW t c) ∧ Ext w w' := by
  have hk : codeB (decide (1 ≤ (t : Int) ∧ (t : Int) ≤ 64)) = 0 := by simp [codeB]; omega
  go_enter Try.func21, Try.ntmps21
  go_upto_region 1 with (fail)
  have hE0 : Ext w (w.alloc (.cells #[.int .i64 0, .int .i64 0, .slice none 0 0, .int .u64 0, .slice none 0 0, .slice none 0 0] 51)) := (Below.refl _ w).alloc (Nat.le_refl _) _
  have hR0 := heap_alloc_new w (.cells #[.int .i64 0, .int .i64 0, .slice none 0 0, .int .u64 0, .slice none 0 0, .slice none 0 0] 51)
  generalize w.alloc (.cells #[.int .i64 0, .int .i64 0, .slice none 0 0, .int .u64 0, .slice none 0 0, .slice none 0 0] 51) = W0 at *
  go_wp2_with fail
  refine (rnew_yes t c ht1 ht2 hc _).mono ?_
  rintro e w1 ⟨g, rfl, hg, hWd, hx1⟩
  go_upto_region 2 with (fail)
  have hx2 : Ext w1 (w1.alloc (.cells #[.int .i64 t, .int .i64 c, .slice (some ⟨g, 0, none⟩) (memL t c) (memL t c)] 45)) := (Below.refl _ w1).alloc (Nat.le_refl _) _
  have hM := heap_alloc_new w1 (.cells #[.int .i64 t, .int .i64 c, .slice (some ⟨g, 0, none⟩) (memL t c) (memL t c)] 45)
  have hV : WordsV w1 (some ⟨g, 0, none⟩) (memL t c) (memL t c) ((List.range (memL t c)).map (newF t c c)) := hWd.v (by unfold memL maxLen; omega) fun i hi => ⟨(newF_u64 hi hc).1, by have := (newF_u64 (r := c) hi hc).2; omega⟩
  replace hV := hV.ext hx2
  replace hx1 := hx1.trans hx2
  generalize w1.alloc (.cells #[.int .i64 t, .int .i64 c, .slice (some ⟨g, 0, none⟩) (memL t c) (memL t c)] 45) = W1 at *
  generalize hgM : w1.heap.size = gM at *
  clear hx2 hWd hgM
  go_wp2_with fail
  refine (rnew_K t _).mono ?_
  rintro e w2 ⟨v2, rfl, hd, hx3⟩
  rw [hk]
  obtain ⟨A0, A1, c0, c1, rfl⟩ := hd.form
  generalize hN : newN (t : Int) = N at *
  go_upto_region 3 with (fail)
  have hx4 : Ext w2 (w2.alloc (.cells #[.int .u64 0, .slice A0 N c0, .slice A1 N c1] 49)) := (Below.refl _ w2).alloc (Nat.le_refl _) _
  have hD := heap_alloc_new w2 (.cells #[.int .u64 0, .slice A0 N c0, .slice A1 N c1] 49)
  generalize w2.alloc (.cells #[.int .u64 0, .slice A0 N c0, .slice A1 N c1] 49) = W2 at *
  generalize w2.heap.size = gD at *
  replace hx3 := hx3.trans hx4
  replace hd := hd.ext hx4
  replace hV := hV.ext hx3
  replace hM := heap_ext hM hx3
  have hR := heap_ext hR0 (hx1.trans hx3)
  have hE := hE0.trans (hx1.trans hx3)
  clear hx1 hx3 hx4 hR0 hE0
  have m0 : W2.cell? ⟨gM, 0, none⟩ = some (.int .i64 t) := by simp [World.cell?, hM]
  have m1 : W2.cell? ⟨gM, 1, none⟩ = some (.int .i64 c) := by simp [World.cell?, hM]
  have m2 : W2.cell? ⟨gM, 2, none⟩ = some (.slice (some ⟨g, 0, none⟩) (memL t c) (memL t c)) := by simp [World.cell?, hM]
  have d0 : W2.cell? ⟨gD, 0, none⟩ = some (.int .u64 0) := by simp [World.cell?, hD]
  have d1 : W2.cell? ⟨gD, 1, none⟩ = some (.slice A0 N c0) := by simp [World.cell?, hD]
  have d2 : W2.cell? ⟨gD, 2, none⟩ = some (.slice A1 N c1) := by simp [World.cell?, hD]
  have r0 : W2.cell? ⟨w.heap.size, 0, none⟩ = some (.int .i64 0) := by simp [World.cell?, hR]
  have rf0 : W2.frozen? ⟨w.heap.size, 0, none⟩ = false := by simp [World.frozen?, hR]
  have r1 : W2.cell? ⟨w.heap.size, 1, none⟩ = some (.int .i64 0) := by simp [World.cell?, hR]
  have rf1 : W2.frozen? ⟨w.heap.size, 1, none⟩ = false := by simp [World.frozen?, hR]
  have r2 : W2.cell? ⟨w.heap.size, 2, none⟩ = some (.slice none 0 0) := by simp [World.cell?, hR]
  have rf2 : W2.frozen? ⟨w.heap.size, 2, none⟩ = false := by simp [World.frozen?, hR]
  have r3 : W2.cell? ⟨w.heap.size, 3, none⟩ = some (.int .u64 0) := by simp [World.cell?, hR]
  have rf3 : W2.frozen? ⟨w.heap.size, 3, none⟩ = false := by simp [World.frozen?, hR]
  have r4 : W2.cell? ⟨w.heap.size, 4, none⟩ = some (.slice none 0 0) := by simp [World.cell?, hR]
  have rf4 : W2.frozen? ⟨w.heap.size, 4, none⟩ = false := by simp [World.frozen?, hR]
  have r5 : W2.cell? ⟨w.heap.size, 5, none⟩ = some (.slice none 0 0) := by simp [World.cell?, hR]
  have rf5 : W2.frozen? ⟨w.heap.size, 5, none⟩ = false := by simp [World.frozen?, hR]
  have hF := But.all w.heap.size [.int .i64 t, .int .i64 c, .slice (some ⟨g, 0, none⟩) (memL t c) (memL t c), .int .u64 0, .slice A0 N c0, .slice A1 N c1] 0 W2
  have hX := setAll_ext (g := w.heap.size) (vs := [.int .i64 t, .int .i64 c, .slice (some ⟨g, 0, none⟩) (memL t c) (memL t c), .int .u64 0, .slice A0 N c0, .slice A1 N c1]) (i := 0) hE (by omega)
  have hRF := setAll_all (vs := [.int .i64 t, .int .i64 c, .slice (some ⟨g, 0, none⟩) (memL t c) (memL t c), .int .u64 0, .slice A0 N c0, .slice A1 N c1]) hR rfl
  simp only [setAll] at hF hX hRF
  go_wp2
  generalize ((((((W2.setCell ⟨w.heap.size, 0, none⟩ (.int .i64 t)).setCell ⟨w.heap.size, 1, none⟩ (.int .i64 c)).setCell ⟨w.heap.size, 2, none⟩ (.slice (some ⟨g, 0, none⟩) (memL t c) (memL t c))).setCell ⟨w.heap.size, 3, none⟩ (.int .u64 0)).setCell ⟨w.heap.size, 4, none⟩ (.slice A0 N c0)).setCell ⟨w.heap.size, 5, none⟩ (.slice A1 N c1)) = wf at *
  clear r0 r1 r2 r3 r4 r5
  have r0 : wf.cell? ⟨w.heap.size, 0, none⟩ = some (.int .i64 t) := by simp [World.cell?, hRF]
  have r1 : wf.cell? ⟨w.heap.size, 1, none⟩ = some (.int .i64 c) := by simp [World.cell?, hRF]
  have r2 : wf.cell? ⟨w.heap.size, 2, none⟩ = some (.slice (some ⟨g, 0, none⟩) (memL t c) (memL t c)) := by simp [World.cell?, hRF]
  have r3 : wf.cell? ⟨w.heap.size, 3, none⟩ = some (.int .u64 0) := by simp [World.cell?, hRF]
  have r4 : wf.cell? ⟨w.heap.size, 4, none⟩ = some (.slice A0 N c0) := by simp [World.cell?, hRF]
  have r5 : wf.cell? ⟨w.heap.size, 5, none⟩ = some (.slice A1 N c1) := by simp [World.cell?, hRF]
  refine bodyPost_ret (v := .agg #[.int .i64 t, .int .i64 c, .slice (some ⟨g, 0, none⟩) (memL t c) (memL t c), .int .u64 0, .slice A0 N c0, .slice A1 N c1]) (by simp [results, Try.results21, go_sem, r0, r1, r2, r3, r4, r5]) rfl ⟨_, rfl, ?_, hX⟩
  subst hN
  exact ⟨_, _, _, _, _, _, _, rfl, hV.but (by simp [memL]; omega) hF hR (by rfl), hd.but hF hR (by rfl)⟩

open Go.RowKit

/-! Worlds told by keys: right or not; what stands in their rows. -/
theorem DkK.rows {w : World} {R : Int} {A0 A1 : Option Addr} {n c0 c1 : Nat} {K0 K1 : List Key} (h : DkK w (.agg #[.int .u64 R, .slice A0 n c0, .slice A1 n c1]) R n K0 K1) : ∃ l0 l1, RowV w A0 n c0 l0 ∧ RowV w A1 n c1 l1 ∧ l0.map St.key = K0 ∧ l1.map St.key = K1 := by
  obtain ⟨l0, l1, ⟨A0', A1', c0', c1', e, h0, h1⟩, h2, h3⟩ := h
  simp only [Value.agg.injEq, Array.mk.injEq, List.cons.injEq, Value.slice.injEq, and_true, true_and] at e
  obtain ⟨⟨rfl, rfl⟩, rfl, rfl⟩ := e
  exact ⟨l0, l1, h0, h1, h2, h3⟩
end Go.Proofs.Ytjokaginolpbeaa

namespace Go.Proofs.Ytjokaginolpbeaa
open Go.RowKit

/-! wealdref10.Told, wealdref10.Same: of what is the same. -/
end Go.Proofs.Ytjokaginolpbeaa

namespace Go.Proofs.Ytjokaginolpbeaa
open Go.RowKit

/-! play.Run: the closure that it defers. -/
def outZero : Array Value := #[.int .i64 0, .bool false, .int .i64 0, .int .u64 0, .slice none 0 0]
def accZero : Array Value := #[.int .i64 0, .int .i64 0, .int .u64 0, .int .u64 0, .slice none 0 0, .slice none 0 0]
theorem assert_nil (T : TypeId) (W : World) : (Instr.typeAssert .nilIface T 170 true).run Try.prog W = .ok (.tuple #[.agg #[.int .i64 0, .int .i64 0, .int .u64 0, .int .u64 0, .slice none 0 0, .slice none 0 0], .bool false]) W := by kernel_rfl
theorem assert_need (T : TypeId) (a : Array Value) (W : World) : (Instr.typeAssert (.iface 170 (.agg a)) T 170 true).run Try.prog W = .ok (.tuple #[.agg a, .bool true]) W := by kernel_rfl
set_option maxRecDepth 100000 in
set_option maxHeartbeats 1000000 in
theorem catch_idle (p q r : Addr) (w : World) :
    CallsD Try.prog 141 #[.pointer (some p), .pointer (some q), .pointer (some r)] .returning w fun e u' w' => e = .returned (.tuple #[]) ∧ u' = .returning ∧ Ext w w' := by
  refine callsD_of_wpS Try.func141 rfl fun c₀ cs hu => ?_
  change Code.wpS _ _ _ ⟨#[.pointer (some p), .pointer (some q), .pointer (some r), undef, undef, undef, undef, undef, undef, undef, undef, undef, undef, undef], []⟩ _ _
  apply wpS_seq
  apply wpS_region
  simp [wpOpsS, go_sem, recoverD, hu, Exit.thenS, assert_nil]
  refine wpS_of_wp ?_
  have hE : Ext w (w.alloc (.cells #[.int .i64 0, .int .i64 0, .int .u64 0, .int .u64 0, .slice none 0 0, .slice none 0 0] 170)) := (Below.refl _ w).alloc (Nat.le_refl _) _
  go_wp2
  cases c₀
  simp_all [bodyPostS, results, Try.results141]
/-- behind the closure that a stop runs into -/
structure Caught (a : Array Value) (gE gO gD : Nat) (w w' : World) : Prop where
  E : w'.heap[gE]? = some (.cells a 33 (0, 0))
  O : w'.heap[gO]? = some (.cells outZero 37 (0, 0))
  D : w'.heap[gD]? = some (.cells #[.bool false] 4 (0, 0))
  size : w.heap.size ≤ w'.heap.size
  os : w'.os = w.os
  tape : w'.tape = w.tape
  output : w'.output = w.output
  block : ∀ k, k < w.heap.size → k ≠ gE → k ≠ gO → k ≠ gD → w'.heap[k]? = w.heap[k]?
set_option maxRecDepth 100000 in
set_option maxHeartbeats 4000000 in
theorem catch_stop (x : Acc) (gE gO gD : Nat) (w : World) (hEO : gE ≠ gO) (hED : gE ≠ gD) (hOD : gO ≠ gD)
    (hgE : w.heap[gE]? = some (.cells accZero 33 (0, 0))) (hgO : w.heap[gO]? = some (.cells outZero 37 (0, 0))) (hgD : w.heap[gD]? = some (.cells #[.bool false] 4 (0, 0))) :
    CallsD Try.prog 141 #[.pointer (some ⟨gE, 0, none⟩), .pointer (some ⟨gO, 0, none⟩), .pointer (some ⟨gD, 0, none⟩)] (.panicking [{ v := .iface 170 (.agg x.cells), recovered := false }]) w fun e u' w' =>
      e = .returned (.tuple #[]) ∧ u' = .panicking [{ v := .iface 170 (.agg x.cells), recovered := true }] ∧ Caught x.cells gE gO gD w w' := by
  obtain ⟨x0, x1, x2, x3, x4, x5, x6, x7, x8, x9⟩ := x
  simp only [Acc.cells]
  refine callsD_of_wpS Try.func141 rfl fun c₀ cs hu => ?_
  change Code.wpS _ _ _ ⟨#[.pointer (some ⟨gE, 0, none⟩), .pointer (some ⟨gO, 0, none⟩), .pointer (some ⟨gD, 0, none⟩), undef, undef, undef, undef, undef, undef, undef, undef, undef, undef, undef], []⟩ _ _
  apply wpS_seq
  apply wpS_region
  simp [wpOpsS, go_sem, recoverD, hu, Exit.thenS, assert_need]
  refine wpS_of_wp ?_
  have hW : Ext w (w.alloc (.cells #[.int .i64 x0, .int .i64 x1, .int .u64 x2, .int .u64 x3, .slice x4 x5 x6, .slice x7 x8 x9] 170)) := (Below.refl _ w).alloc (Nat.le_refl _) _
  have hgN : (w.alloc (.cells #[.int .i64 x0, .int .i64 x1, .int .u64 x2, .int .u64 x3, .slice x4 x5 x6, .slice x7 x8 x9] 170)).heap[w.heap.size]? = some (.cells #[.int .i64 x0, .int .i64 x1, .int .u64 x2, .int .u64 x3, .slice x4 x5 x6, .slice x7 x8 x9] 170 (0, 0)) := heap_alloc_new w _
  replace hgE := heap_ext hgE hW
  replace hgO := heap_ext hgO hW
  replace hgD := heap_ext hgD hW
  have hsz := hW.size
  have hblk := hW.block
  have hos := hW.os
  have hta := hW.tape
  have hou := hW.output
  generalize w.alloc (.cells #[.int .i64 x0, .int .i64 x1, .int .u64 x2, .int .u64 x3, .slice x4 x5 x6, .slice x7 x8 x9] 170) = W at *
  simp only [accZero, outZero] at hgE hgO
  have c0 : W.cell? ⟨gE, 0, none⟩ = some (.int .i64 0) := by simp [World.cell?, hgE]
  have f0 : W.frozen? ⟨gE, 0, none⟩ = false := by simp [World.frozen?, hgE]
  have c1 : W.cell? ⟨gE, 1, none⟩ = some (.int .i64 0) := by simp [World.cell?, hgE]
  have f1 : W.frozen? ⟨gE, 1, none⟩ = false := by simp [World.frozen?, hgE]
  have c2 : W.cell? ⟨gE, 2, none⟩ = some (.int .u64 0) := by simp [World.cell?, hgE]
  have f2 : W.frozen? ⟨gE, 2, none⟩ = false := by simp [World.frozen?, hgE]
  have c3 : W.cell? ⟨gE, 3, none⟩ = some (.int .u64 0) := by simp [World.cell?, hgE]
  have f3 : W.frozen? ⟨gE, 3, none⟩ = false := by simp [World.frozen?, hgE]
  have c4 : W.cell? ⟨gE, 4, none⟩ = some (.slice none 0 0) := by simp [World.cell?, hgE]
  have f4 : W.frozen? ⟨gE, 4, none⟩ = false := by simp [World.frozen?, hgE]
  have c5 : W.cell? ⟨gE, 5, none⟩ = some (.slice none 0 0) := by simp [World.cell?, hgE]
  have f5 : W.frozen? ⟨gE, 5, none⟩ = false := by simp [World.frozen?, hgE]
  have d0 : W.cell? ⟨gO, 0, none⟩ = some (.int .i64 0) := by simp [World.cell?, hgO]
  have g0 : W.frozen? ⟨gO, 0, none⟩ = false := by simp [World.frozen?, hgO]
  have d1 : W.cell? ⟨gO, 1, none⟩ = some (.bool false) := by simp [World.cell?, hgO]
  have g1 : W.frozen? ⟨gO, 1, none⟩ = false := by simp [World.frozen?, hgO]
  have d2 : W.cell? ⟨gO, 2, none⟩ = some (.int .i64 0) := by simp [World.cell?, hgO]
  have g2 : W.frozen? ⟨gO, 2, none⟩ = false := by simp [World.frozen?, hgO]
  have d3 : W.cell? ⟨gO, 3, none⟩ = some (.int .u64 0) := by simp [World.cell?, hgO]
  have g3 : W.frozen? ⟨gO, 3, none⟩ = false := by simp [World.frozen?, hgO]
  have d4 : W.cell? ⟨gO, 4, none⟩ = some (.slice none 0 0) := by simp [World.cell?, hgO]
  have g4 : W.frozen? ⟨gO, 4, none⟩ = false := by simp [World.frozen?, hgO]
  have e0 : W.cell? ⟨gD, 0, none⟩ = some (.bool false) := by simp [World.cell?, hgD]
  have h0 : W.frozen? ⟨gD, 0, none⟩ = false := by simp [World.frozen?, hgD]
  have b0 : W.cell? ⟨w.heap.size, 0, none⟩ = some (.int .i64 x0) := by simp [World.cell?, hgN]
  have b1 : W.cell? ⟨w.heap.size, 1, none⟩ = some (.int .i64 x1) := by simp [World.cell?, hgN]
  have b2 : W.cell? ⟨w.heap.size, 2, none⟩ = some (.int .u64 x2) := by simp [World.cell?, hgN]
  have b3 : W.cell? ⟨w.heap.size, 3, none⟩ = some (.int .u64 x3) := by simp [World.cell?, hgN]
  have b4 : W.cell? ⟨w.heap.size, 4, none⟩ = some (.slice x4 x5 x6) := by simp [World.cell?, hgN]
  have b5 : W.cell? ⟨w.heap.size, 5, none⟩ = some (.slice x7 x8 x9) := by simp [World.cell?, hgN]
  have n1 := Ne.symm hEO
  have n2 := Ne.symm hED
  have n3 := Ne.symm hOD
  clear hW
  have HE := Lib.hid hgE
  have HO := Lib.hid hgO
  have HD := Lib.hid hgD
  have HB := Lib.hid hblk
  clear hgE hgO hgD hgN hblk
  go_wp2
  cases c₀
  simp only at hu
  subst hu
  refine ⟨rfl, _, rfl, .tuple #[], by simp [results, Try.results141], rfl, rfl, ?_⟩
  have HE' := HE.out
  have HO' := HO.out
  have HD' := HD.out
  change Caught _ gE gO gD w (setAll gD 0 [.bool false] (setAll gO 0 [.int .i64 0, .bool false, .int .i64 0, .int .u64 0, .slice none 0 0] (setAll gE 0 [.int .i64 x0, .int .i64 x1, .int .u64 x2, .int .u64 x3, .slice x4 x5 x6, .slice x7 x8 x9] W)))
  refine ⟨?_, ?_, ?_, ?_, ?_, ?_, ?_, ?_⟩
  · rw [setAll_other hED, setAll_other hEO]
    exact setAll_all (old := [.int .i64 0, .int .i64 0, .int .u64 0, .int .u64 0, .slice none 0 0, .slice none 0 0]) HE' rfl
  · rw [setAll_other hOD]
    exact setAll_all (old := [.int .i64 0, .bool false, .int .i64 0, .int .u64 0, .slice none 0 0]) (by rw [setAll_other n1]; exact HO') rfl
  · exact setAll_all (old := [.bool false]) (by rw [setAll_other n3, setAll_other n2]; exact HD') rfl
  · rw [setAll_size, setAll_size, setAll_size]; exact hsz
  · rw [(setAll_rest _ _ _).1, (setAll_rest _ _ _).1, (setAll_rest _ _ _).1]; exact hos
  · rw [(setAll_rest _ _ _).2.1, (setAll_rest _ _ _).2.1, (setAll_rest _ _ _).2.1]; exact hta
  · rw [(setAll_rest _ _ _).2.2, (setAll_rest _ _ _).2.2, (setAll_rest _ _ _).2.2]; exact hou
  · intro k hk k1 k2 k3
    rw [setAll_other k3, setAll_other k2, setAll_other k1]
    exact HB.out k hk
/-- an answer, its list nil -/
structure OutN where
  err : Int
  is : Bool
  n : Int
  w : Int
def OutN.cells (o : OutN) : Array Value := #[.int .i64 o.err, .bool o.is, .int .i64 o.n, .int .u64 o.w, .slice none 0 0]
/-- what a program is handed -/
def doV (gA gL : Nat) : Value := .func (.func 142) #[] #[.pointer (some ⟨gA, 0, none⟩), .pointer (some ⟨gL, 0, none⟩)]
/-- a log that came in -/
structure LogV (w : World) (A : Option Addr) (n c : Nat) (rs : List Res) : Prop where
  len : rs.length = n
  small : n ≤ 65536
  at_ : ∀ j r, rs[j]? = some r → ∃ a, A = some a ∧ ResAt w a j r
theorem LogV.ext {w w' : World} {A : Option Addr} {n c : Nat} {rs : List Res} (h : LogV w A n c rs) (hx : Ext w w') : LogV w' A n c rs :=
  ⟨h.len, h.small, fun j r hr => let ⟨a, ha, h1, h2, h3⟩ := h.at_ j r hr; ⟨a, ha, hx.cell h1, hx.cell h2, hx.cell h3⟩⟩
theorem LogV.start {w W : World} {A : Option Addr} {n c : Nat} {rs : List Res} (h : LogV w A n c rs) (hx : Ext w W) {gA gL : Nat} {fr : Nat × Nat} (h1 : W.heap[gA]? = some (.cells #[.int .i64 0] 3 (0, 0)))
    (h2 : W.heap[gL]? = some (.cells #[.slice A n c] 25 fr)) (hne : gA ≠ gL) (hA : w.heap.size ≤ gA) : DoAt w.heap.size W gA gL rs := by
  refine ⟨0, n, c, A, fr, by simpa using h1, h2, h.small, by rw [h.len]; omega, hne, fun j r hr => ?_⟩
  obtain ⟨a, ha, hr1⟩ := h.at_ j r hr
  have hl := lt_of_cell hr1.1
  rw [add_block] at hl
  exact ⟨a, ha, by omega, hl, by rw [Nat.zero_add]; exact ⟨hx.cell hr1.1, hx.cell hr1.2.1, hx.cell hr1.2.2⟩⟩
theorem five_boxes (w : World) (o0 o1 o2 o3 o4 : Obj) :
    Ext w (((((w.alloc o0).alloc o1).alloc o2).alloc o3).alloc o4) ∧ (((((w.alloc o0).alloc o1).alloc o2).alloc o3).alloc o4).heap.size = w.heap.size + 5 ∧
    (((((w.alloc o0).alloc o1).alloc o2).alloc o3).alloc o4).heap[w.heap.size]? = some o0 ∧ (((((w.alloc o0).alloc o1).alloc o2).alloc o3).alloc o4).heap[w.heap.size + 1]? = some o1 ∧
    (((((w.alloc o0).alloc o1).alloc o2).alloc o3).alloc o4).heap[w.heap.size + 1 + 1]? = some o2 ∧ (((((w.alloc o0).alloc o1).alloc o2).alloc o3).alloc o4).heap[w.heap.size + 1 + 1 + 1]? = some o3 ∧
    (((((w.alloc o0).alloc o1).alloc o2).alloc o3).alloc o4).heap[w.heap.size + 1 + 1 + 1 + 1]? = some o4 := by
  refine ⟨((((((Below.refl _ w).alloc (Nat.le_refl _) _).alloc (by simp) _).alloc (by simp; omega) _).alloc (by simp; omega) _).alloc (by simp; omega) _), by simp, ?_, ?_, ?_, ?_, ?_⟩
  · rw [Below.heap_alloc _ _ _ (by first | (simp; omega) | simp), Below.heap_alloc _ _ _ (by first | (simp; omega) | simp), Below.heap_alloc _ _ _ (by first | (simp; omega) | simp), Below.heap_alloc _ _ _ (by first | (simp; omega) | simp)]
    simpa using heap_alloc_new w o0
  · rw [Below.heap_alloc _ _ _ (by first | (simp; omega) | simp), Below.heap_alloc _ _ _ (by first | (simp; omega) | simp), Below.heap_alloc _ _ _ (by first | (simp; omega) | simp)]
    simpa using heap_alloc_new (w.alloc o0) o1
  · rw [Below.heap_alloc _ _ _ (by first | (simp; omega) | simp), Below.heap_alloc _ _ _ (by first | (simp; omega) | simp)]
    simpa using heap_alloc_new ((w.alloc o0).alloc o1) o2
  · rw [Below.heap_alloc _ _ _ (by first | (simp; omega) | simp)]
    simpa using heap_alloc_new (((w.alloc o0).alloc o1).alloc o2) o3
  · simpa using heap_alloc_new ((((w.alloc o0).alloc o1).alloc o2).alloc o3) o4
set_option maxRecDepth 100000 in
set_option maxHeartbeats 4000000 in
theorem run_done (fP : FuncId) (caps : Array Value) (A : Option Addr) (n c : Nat) (rs : List Res) (o : OutN) (w : World) (hlog : LogV w A n c rs)
    (hcall : ∀ (args : Array Value) (w : World), (callFunc fP args).run Try.prog w = .ok (.enter fP args) w)
    (hprog : ∀ (gA gL : Nat) (W : World), Ext w W → w.heap.size ≤ gA → gA < W.heap.size → DoAt w.heap.size W gA gL rs → Calls Try.prog fP (#[doV gA gL] ++ caps) W fun e W' => e = .returned (.agg o.cells) ∧ ExtB gA W W') :
    Calls Try.prog 104 #[.func (.func fP) #[] caps, .slice A n c] w fun e w' => e = .returned (.tuple #[.agg accZero, .agg o.cells, .bool true]) ∧ Ext w w' := by
  have hmf : ∀ (fn : Fn) (first cap : Array Value) (w : World), (Instr.makeFunc fn first cap).run Try.prog w = .ok (.func fn first cap) w := fun _ _ _ _ => rfl
  go_enter_defers Try.func104, Try.ntmps104
  go_upto_region 3 with (fail)
  obtain ⟨hW, hsz, hL, hE, hO, hD, hA⟩ := five_boxes w (.cells #[.slice A n c] 25) (.cells #[.int .i64 0, .int .i64 0, .int .u64 0, .int .u64 0, .slice none 0 0, .slice none 0 0] 33)
    (.cells #[.int .i64 0, .bool false, .int .i64 0, .int .u64 0, .slice none 0 0] 37) (.cells #[.bool false] 4) (.cells #[.int .i64 0] 3)
  generalize ((((w.alloc (.cells #[.slice A n c] 25)).alloc (.cells #[.int .i64 0, .int .i64 0, .int .u64 0, .int .u64 0, .slice none 0 0, .slice none 0 0] 33)).alloc
    (.cells #[.int .i64 0, .bool false, .int .i64 0, .int .u64 0, .slice none 0 0] 37)).alloc (.cells #[.bool false] 4)).alloc (.cells #[.int .i64 0] 3) = W at *
  have hdo := hlog.start hW hA hL (by omega) (by omega)
  have hcl := hprog _ _ W hW (by omega) (by omega) hdo
  go_wp2_with fail
  refine hcl.mono ?_
  rintro e w2 ⟨rfl, hB⟩
  have hE2 := hB.heap hE (by omega)
  have hO2 := hB.heap hO (by omega)
  have hD2 := hB.heap hD (by omega)
  have hx2 := hB.ext hW (by omega)
  have hs2 : w.heap.size + 5 ≤ w2.heap.size := by have := hB.size; omega
  clear hcl hdo hprog hE hO hD hL hA hW hB hsz
  obtain ⟨oe, ois, on, ow⟩ := o
  simp only [OutN.cells]
  have q0 : w2.cell? ⟨w.heap.size + 1 + 1, 0, none⟩ = some (.int .i64 0) := by simp [World.cell?, hO2]
  have q1 : w2.cell? ⟨w.heap.size + 1 + 1, 1, none⟩ = some (.bool false) := by simp [World.cell?, hO2]
  have q2 : w2.cell? ⟨w.heap.size + 1 + 1, 2, none⟩ = some (.int .i64 0) := by simp [World.cell?, hO2]
  have q3 : w2.cell? ⟨w.heap.size + 1 + 1, 3, none⟩ = some (.int .u64 0) := by simp [World.cell?, hO2]
  have q4 : w2.cell? ⟨w.heap.size + 1 + 1, 4, none⟩ = some (.slice none 0 0) := by simp [World.cell?, hO2]
  have f0 : w2.frozen? ⟨w.heap.size + 1 + 1, 0, none⟩ = false := by simp [World.frozen?, hO2]
  have f1 : w2.frozen? ⟨w.heap.size + 1 + 1, 1, none⟩ = false := by simp [World.frozen?, hO2]
  have f2 : w2.frozen? ⟨w.heap.size + 1 + 1, 2, none⟩ = false := by simp [World.frozen?, hO2]
  have f3 : w2.frozen? ⟨w.heap.size + 1 + 1, 3, none⟩ = false := by simp [World.frozen?, hO2]
  have f4 : w2.frozen? ⟨w.heap.size + 1 + 1, 4, none⟩ = false := by simp [World.frozen?, hO2]
  go_upto_region 4 with (fail)
  have hW3 : ((((w2.setCell ⟨w.heap.size + 1 + 1, 0, none⟩ (.int .i64 oe)).setCell ⟨w.heap.size + 1 + 1, 1, none⟩ (.bool ois)).setCell ⟨w.heap.size + 1 + 1, 2, none⟩ (.int .i64 on)).setCell ⟨w.heap.size + 1 + 1, 3, none⟩ (.int .u64 ow)).setCell ⟨w.heap.size + 1 + 1, 4, none⟩ (.slice none 0 0) =
      setAll (w.heap.size + 1 + 1) 0 [.int .i64 oe, .bool ois, .int .i64 on, .int .u64 ow, .slice none 0 0] w2 := rfl
  rw [hW3]
  have hO3 := setAll_all (vs := [.int .i64 oe, .bool ois, .int .i64 on, .int .u64 ow, .slice none 0 0]) (old := [.int .i64 0, .bool false, .int .i64 0, .int .u64 0, .slice none 0 0]) hO2 rfl
  have hE3 : (setAll (w.heap.size + 1 + 1) 0 [.int .i64 oe, .bool ois, .int .i64 on, .int .u64 ow, .slice none 0 0] w2).heap[w.heap.size + 1]? = _ := (setAll_other (by omega) _ _ _).trans hE2
  have hD3 : (setAll (w.heap.size + 1 + 1) 0 [.int .i64 oe, .bool ois, .int .i64 on, .int .u64 ow, .slice none 0 0] w2).heap[w.heap.size + 1 + 1 + 1]? = _ := (setAll_other (by omega) _ _ _).trans hD2
  have hx3 : Ext w (setAll (w.heap.size + 1 + 1) 0 [.int .i64 oe, .bool ois, .int .i64 on, .int .u64 ow, .slice none 0 0] w2) := setAll_ext hx2 (by omega)
  clear hW3 q0 q1 q2 q3 q4 f0 f1 f2 f3 f4 hO2 hE2 hD2 hx2
  generalize setAll (w.heap.size + 1 + 1) 0 [.int .i64 oe, .bool ois, .int .i64 on, .int .u64 ow, .slice none 0 0] w2 = W3 at *
  have c0 : W3.cell? ⟨w.heap.size + 1, 0, none⟩ = some (.int .i64 0) := by simp [World.cell?, hE3]
  have f0 : W3.frozen? ⟨w.heap.size + 1, 0, none⟩ = false := by simp [World.frozen?, hE3]
  have c1 : W3.cell? ⟨w.heap.size + 1, 1, none⟩ = some (.int .i64 0) := by simp [World.cell?, hE3]
  have f1 : W3.frozen? ⟨w.heap.size + 1, 1, none⟩ = false := by simp [World.frozen?, hE3]
  have c2 : W3.cell? ⟨w.heap.size + 1, 2, none⟩ = some (.int .u64 0) := by simp [World.cell?, hE3]
  have f2 : W3.frozen? ⟨w.heap.size + 1, 2, none⟩ = false := by simp [World.frozen?, hE3]
  have c3 : W3.cell? ⟨w.heap.size + 1, 3, none⟩ = some (.int .u64 0) := by simp [World.cell?, hE3]
  have f3 : W3.frozen? ⟨w.heap.size + 1, 3, none⟩ = false := by simp [World.frozen?, hE3]
  have c4 : W3.cell? ⟨w.heap.size + 1, 4, none⟩ = some (.slice none 0 0) := by simp [World.cell?, hE3]
  have f4 : W3.frozen? ⟨w.heap.size + 1, 4, none⟩ = false := by simp [World.frozen?, hE3]
  have c5 : W3.cell? ⟨w.heap.size + 1, 5, none⟩ = some (.slice none 0 0) := by simp [World.cell?, hE3]
  have f5 : W3.frozen? ⟨w.heap.size + 1, 5, none⟩ = false := by simp [World.frozen?, hE3]
  have d0 : W3.cell? ⟨w.heap.size + 1 + 1, 0, none⟩ = some (.int .i64 oe) := by simp [World.cell?, hO3]
  have g0 : W3.frozen? ⟨w.heap.size + 1 + 1, 0, none⟩ = false := by simp [World.frozen?, hO3]
  have d1 : W3.cell? ⟨w.heap.size + 1 + 1, 1, none⟩ = some (.bool ois) := by simp [World.cell?, hO3]
  have g1 : W3.frozen? ⟨w.heap.size + 1 + 1, 1, none⟩ = false := by simp [World.frozen?, hO3]
  have d2 : W3.cell? ⟨w.heap.size + 1 + 1, 2, none⟩ = some (.int .i64 on) := by simp [World.cell?, hO3]
  have g2 : W3.frozen? ⟨w.heap.size + 1 + 1, 2, none⟩ = false := by simp [World.frozen?, hO3]
  have d3 : W3.cell? ⟨w.heap.size + 1 + 1, 3, none⟩ = some (.int .u64 ow) := by simp [World.cell?, hO3]
  have g3 : W3.frozen? ⟨w.heap.size + 1 + 1, 3, none⟩ = false := by simp [World.frozen?, hO3]
  have d4 : W3.cell? ⟨w.heap.size + 1 + 1, 4, none⟩ = some (.slice none 0 0) := by simp [World.cell?, hO3]
  have g4 : W3.frozen? ⟨w.heap.size + 1 + 1, 4, none⟩ = false := by simp [World.frozen?, hO3]
  have e0 : W3.cell? ⟨w.heap.size + 1 + 1 + 1, 0, none⟩ = some (.bool false) := by simp [World.cell?, hD3]
  have h0 : W3.frozen? ⟨w.heap.size + 1 + 1 + 1, 0, none⟩ = false := by simp [World.frozen?, hD3]
  have HE := Lib.hid hE3
  have HO := Lib.hid hO3
  have HD := Lib.hid hD3
  clear hE3 hO3 hD3
  go_region
  all_goals
    go_wp2
    have hbig : ((((((((((((W3.setCell ⟨w.heap.size + 1, 0, none⟩ (.int .i64 0)).setCell ⟨w.heap.size + 1, 1, none⟩ (.int .i64 0)).setCell ⟨w.heap.size + 1, 2, none⟩ (.int .u64 0)).setCell ⟨w.heap.size + 1, 3, none⟩ (.int .u64 0)).setCell ⟨w.heap.size + 1, 4, none⟩ (.slice none 0 0)).setCell ⟨w.heap.size + 1, 5, none⟩ (.slice none 0 0)).setCell ⟨w.heap.size + 1 + 1, 0, none⟩ (.int .i64 oe)).setCell ⟨w.heap.size + 1 + 1, 1, none⟩ (.bool ois)).setCell ⟨w.heap.size + 1 + 1, 2, none⟩ (.int .i64 on)).setCell ⟨w.heap.size + 1 + 1, 3, none⟩ (.int .u64 ow)).setCell ⟨w.heap.size + 1 + 1, 4, none⟩ (.slice none 0 0)).setCell ⟨w.heap.size + 1 + 1 + 1, 0, none⟩ (.bool true)) = setAll (w.heap.size + 1 + 1 + 1) 0 [.bool true] (setAll (w.heap.size + 1 + 1) 0 [.int .i64 oe, .bool ois, .int .i64 on, .int .u64 ow, .slice none 0 0] (setAll (w.heap.size + 1) 0 [.int .i64 0, .int .i64 0, .int .u64 0, .int .u64 0, .slice none 0 0, .slice none 0 0] W3)) := rfl
    rw [hbig]
    clear hbig
    have hx4 : Ext w (setAll (w.heap.size + 1 + 1 + 1) 0 [.bool true] (setAll (w.heap.size + 1 + 1) 0 [.int .i64 oe, .bool ois, .int .i64 on, .int .u64 ow, .slice none 0 0] (setAll (w.heap.size + 1) 0 [.int .i64 0, .int .i64 0, .int .u64 0, .int .u64 0, .slice none 0 0, .slice none 0 0] W3))) := setAll_ext (setAll_ext (setAll_ext hx3 (by omega)) (by omega)) (by omega)
    have hE4 : (setAll (w.heap.size + 1 + 1 + 1) 0 [.bool true] (setAll (w.heap.size + 1 + 1) 0 [.int .i64 oe, .bool ois, .int .i64 on, .int .u64 ow, .slice none 0 0] (setAll (w.heap.size + 1) 0 [.int .i64 0, .int .i64 0, .int .u64 0, .int .u64 0, .slice none 0 0, .slice none 0 0] W3))).heap[w.heap.size + 1]? = some (.cells (List.toArray [.int .i64 0, .int .i64 0, .int .u64 0, .int .u64 0, .slice none 0 0, .slice none 0 0]) 33 (0, 0)) := by
      rw [setAll_other (by omega), setAll_other (by omega)]; exact setAll_all (old := [.int .i64 0, .int .i64 0, .int .u64 0, .int .u64 0, .slice none 0 0, .slice none 0 0]) HE.out rfl
    have hO4 : (setAll (w.heap.size + 1 + 1 + 1) 0 [.bool true] (setAll (w.heap.size + 1 + 1) 0 [.int .i64 oe, .bool ois, .int .i64 on, .int .u64 ow, .slice none 0 0] (setAll (w.heap.size + 1) 0 [.int .i64 0, .int .i64 0, .int .u64 0, .int .u64 0, .slice none 0 0, .slice none 0 0] W3))).heap[w.heap.size + 1 + 1]? = some (.cells (List.toArray [.int .i64 oe, .bool ois, .int .i64 on, .int .u64 ow, .slice none 0 0]) 37 (0, 0)) := by
      rw [setAll_other (by omega)]; exact setAll_all (old := [.int .i64 oe, .bool ois, .int .i64 on, .int .u64 ow, .slice none 0 0]) (by rw [setAll_other (by omega)]; exact HO.out) rfl
    have hD4 : (setAll (w.heap.size + 1 + 1 + 1) 0 [.bool true] (setAll (w.heap.size + 1 + 1) 0 [.int .i64 oe, .bool ois, .int .i64 on, .int .u64 ow, .slice none 0 0] (setAll (w.heap.size + 1) 0 [.int .i64 0, .int .i64 0, .int .u64 0, .int .u64 0, .slice none 0 0, .slice none 0 0] W3))).heap[w.heap.size + 1 + 1 + 1]? = some (.cells (List.toArray [.bool true]) 4 (0, 0)) :=
      setAll_all (old := [.bool false]) (by rw [setAll_other (by omega), setAll_other (by omega)]; exact HD.out) rfl
    clear c0 c1 c2 c3 c4 c5 f0 f1 f2 f3 f4 f5 d0 d1 d2 d3 d4 g0 g1 g2 g3 g4 e0 h0
    generalize setAll (w.heap.size + 1 + 1 + 1) 0 [.bool true] (setAll (w.heap.size + 1 + 1) 0 [.int .i64 oe, .bool ois, .int .i64 on, .int .u64 ow, .slice none 0 0] (setAll (w.heap.size + 1) 0 [.int .i64 0, .int .i64 0, .int .u64 0, .int .u64 0, .slice none 0 0, .slice none 0 0] W3)) = W4 at *
    refine leaves_cons (f := 141) (args := #[.pointer (some ⟨w.heap.size + 1, 0, none⟩), .pointer (some ⟨w.heap.size + 1 + 1, 0, none⟩), .pointer (some ⟨w.heap.size + 1 + 1 + 1, 0, none⟩)]) (by simp) (by simp [go_sem]) ?_
    refine (catch_idle _ _ _ _).mono ?_
    rintro e u' w5 ⟨rfl, rfl, hx5⟩
    replace hx5 := hx5.drawn
    have hE5 := heap_ext hE4 hx5
    have hO5 := heap_ext hO4 hx5
    have hD5 := heap_ext hD4 hx5
    have hx6 := hx4.trans hx5
    clear hE4 hO4 hD4 hx4 hx5
    have c0 : w5.cell? ⟨w.heap.size + 1, 0, none⟩ = some (.int .i64 0) := by simp [World.cell?, hE5]
    have c1 : w5.cell? ⟨w.heap.size + 1, 1, none⟩ = some (.int .i64 0) := by simp [World.cell?, hE5]
    have c2 : w5.cell? ⟨w.heap.size + 1, 2, none⟩ = some (.int .u64 0) := by simp [World.cell?, hE5]
    have c3 : w5.cell? ⟨w.heap.size + 1, 3, none⟩ = some (.int .u64 0) := by simp [World.cell?, hE5]
    have c4 : w5.cell? ⟨w.heap.size + 1, 4, none⟩ = some (.slice none 0 0) := by simp [World.cell?, hE5]
    have c5 : w5.cell? ⟨w.heap.size + 1, 5, none⟩ = some (.slice none 0 0) := by simp [World.cell?, hE5]
    have d0 : w5.cell? ⟨w.heap.size + 1 + 1, 0, none⟩ = some (.int .i64 oe) := by simp [World.cell?, hO5]
    have d1 : w5.cell? ⟨w.heap.size + 1 + 1, 1, none⟩ = some (.bool ois) := by simp [World.cell?, hO5]
    have d2 : w5.cell? ⟨w.heap.size + 1 + 1, 2, none⟩ = some (.int .i64 on) := by simp [World.cell?, hO5]
    have d3 : w5.cell? ⟨w.heap.size + 1 + 1, 3, none⟩ = some (.int .u64 ow) := by simp [World.cell?, hO5]
    have d4 : w5.cell? ⟨w.heap.size + 1 + 1, 4, none⟩ = some (.slice none 0 0) := by simp [World.cell?, hO5]
    have e0 : w5.cell? ⟨w.heap.size + 1 + 1 + 1, 0, none⟩ = some (.bool true) := by simp [World.cell?, hD5]
    refine ⟨.tuple #[.agg accZero, .agg #[.int .i64 oe, .bool ois, .int .i64 on, .int .u64 ow, .slice none 0 0], .bool true], ?_, rfl, hx6⟩
    simp [results, Try.results104, go_sem, c0, c1, c2, c3, c4, c5, d0, d1, d2, d3, d4, e0, accZero]
set_option maxRecDepth 100000 in
set_option maxHeartbeats 4000000 in
theorem run_stop (fP : FuncId) (caps : Array Value) (A : Option Addr) (n c : Nat) (rs : List Res) (x : Acc) (w : World) (hlog : LogV w A n c rs)
    (hcall : ∀ (args : Array Value) (w : World), (callFunc fP args).run Try.prog w = .ok (.enter fP args) w)
    (hprog : ∀ (gA gL : Nat) (W : World), Ext w W → w.heap.size ≤ gA → gA < W.heap.size → DoAt w.heap.size W gA gL rs → Calls Try.prog fP (#[doV gA gL] ++ caps) W fun e W' => e = needP x.cells ∧ ExtB gA W W') :
    Calls Try.prog 104 #[.func (.func fP) #[] caps, .slice A n c] w fun e w' => e = .returned (.tuple #[.agg x.cells, .agg outZero, .bool false]) ∧ Ext w w' := by
  have hmf : ∀ (fn : Fn) (first cap : Array Value) (w : World), (Instr.makeFunc fn first cap).run Try.prog w = .ok (.func fn first cap) w := fun _ _ _ _ => rfl
  go_enter_defers Try.func104, Try.ntmps104
  go_upto_region 3 with (fail)
  obtain ⟨hW, hsz, hL, hE, hO, hD, hA⟩ := five_boxes w (.cells #[.slice A n c] 25) (.cells #[.int .i64 0, .int .i64 0, .int .u64 0, .int .u64 0, .slice none 0 0, .slice none 0 0] 33)
    (.cells #[.int .i64 0, .bool false, .int .i64 0, .int .u64 0, .slice none 0 0] 37) (.cells #[.bool false] 4) (.cells #[.int .i64 0] 3)
  generalize ((((w.alloc (.cells #[.slice A n c] 25)).alloc (.cells #[.int .i64 0, .int .i64 0, .int .u64 0, .int .u64 0, .slice none 0 0, .slice none 0 0] 33)).alloc
    (.cells #[.int .i64 0, .bool false, .int .i64 0, .int .u64 0, .slice none 0 0] 37)).alloc (.cells #[.bool false] 4)).alloc (.cells #[.int .i64 0] 3) = W at *
  have hdo := hlog.start hW hA hL (by omega) (by omega)
  have hcl := hprog _ _ W hW (by omega) (by omega) hdo
  go_wp2_with fail
  refine hcl.mono ?_
  rintro e w2 ⟨rfl, hB⟩
  have hE2 := hB.heap hE (by omega)
  have hO2 := hB.heap hO (by omega)
  have hD2 := hB.heap hD (by omega)
  have hx2 := hB.ext hW (by omega)
  have hs2 : w.heap.size + 5 ≤ w2.heap.size := by have := hB.size; omega
  clear hcl hdo hprog hE hO hD hL hA hW hB hsz
  refine leaves_cons (f := 141) (args := #[.pointer (some ⟨w.heap.size + 1, 0, none⟩), .pointer (some ⟨w.heap.size + 1 + 1, 0, none⟩), .pointer (some ⟨w.heap.size + 1 + 1 + 1, 0, none⟩)]) (by simp) (by simp [go_sem]) ?_
  refine (catch_stop x _ _ _ w2 (by omega) (by omega) (by omega) hE2 hO2 hD2).mono ?_
  rintro e u' w5 ⟨rfl, rfl, hC⟩
  have hx6 : Ext w w5 := ⟨hC.os.trans hx2.os, hC.tape.trans hx2.tape, hC.output.trans hx2.output, Nat.le_trans hx2.size hC.size, fun k hk => by
    rw [hC.block k (by omega) (by omega) (by omega) (by omega)]; exact hx2.block k hk⟩
  have hE5 := hC.E
  have hO5 := hC.O
  have hD5 := hC.D
  clear hC hx2 hE2 hO2 hD2
  obtain ⟨x0, x1, x2, x3, x4, x5, x6, x7, x8, x9⟩ := x
  simp only [Acc.cells, outZero] at hE5 hO5
  have c0 : w5.cell? ⟨w.heap.size + 1, 0, none⟩ = some (.int .i64 x0) := by simp [World.cell?, hE5]
  have c1 : w5.cell? ⟨w.heap.size + 1, 1, none⟩ = some (.int .i64 x1) := by simp [World.cell?, hE5]
  have c2 : w5.cell? ⟨w.heap.size + 1, 2, none⟩ = some (.int .u64 x2) := by simp [World.cell?, hE5]
  have c3 : w5.cell? ⟨w.heap.size + 1, 3, none⟩ = some (.int .u64 x3) := by simp [World.cell?, hE5]
  have c4 : w5.cell? ⟨w.heap.size + 1, 4, none⟩ = some (.slice x4 x5 x6) := by simp [World.cell?, hE5]
  have c5 : w5.cell? ⟨w.heap.size + 1, 5, none⟩ = some (.slice x7 x8 x9) := by simp [World.cell?, hE5]
  have d0 : w5.cell? ⟨w.heap.size + 1 + 1, 0, none⟩ = some (.int .i64 0) := by simp [World.cell?, hO5]
  have d1 : w5.cell? ⟨w.heap.size + 1 + 1, 1, none⟩ = some (.bool false) := by simp [World.cell?, hO5]
  have d2 : w5.cell? ⟨w.heap.size + 1 + 1, 2, none⟩ = some (.int .i64 0) := by simp [World.cell?, hO5]
  have d3 : w5.cell? ⟨w.heap.size + 1 + 1, 3, none⟩ = some (.int .u64 0) := by simp [World.cell?, hO5]
  have d4 : w5.cell? ⟨w.heap.size + 1 + 1, 4, none⟩ = some (.slice none 0 0) := by simp [World.cell?, hO5]
  have e0 : w5.cell? ⟨w.heap.size + 1 + 1 + 1, 0, none⟩ = some (.bool false) := by simp [World.cell?, hD5]
  refine ⟨.tuple #[.agg #[.int .i64 x0, .int .i64 x1, .int .u64 x2, .int .u64 x3, .slice x4 x5 x6, .slice x7 x8 x9], .agg outZero, .bool false], ?_, rfl, hx6⟩
  simp [results, Try.results104, go_sem, c0, c1, c2, c3, c4, c5, d0, d1, d2, d3, d4, e0, outZero]
end Go.Proofs.Ytjokaginolpbeaa

namespace Go.Proofs.Ytjokaginolpbeaa
open Go.RowKit

/-! play.Line. -/
/-- a row of accesses that came in -/
structure AccsV (w : World) (A : Option Addr) (n c : Nat) (l : List Acc) : Prop where
 len : l.length = n
 at_ : ∀ j x, l[j]? = some x → ∃ a, A = some a ∧ ∀ k v, x.cells[k]? = some v → w.cell? ((a.add (j * 6)).add k) = some v
theorem AccsV.ext {w w' : World} {A : Option Addr} {n c : Nat} {l : List Acc} (h : AccsV w A n c l) (hx : Ext w w') : AccsV w' A n c l :=
 ⟨h.len, fun j x hj => let ⟨a, ha, hc⟩ := h.at_ j x hj; ⟨a, ha, fun k v hk => hx.cell (hc k v hk)⟩⟩
end Go.Proofs.Ytjokaginolpbeaa

namespace Go.Proofs.Ytjokaginolpbeaa
open Go.RowKit

/-! play.Line. -/
def Acc.zero : Acc := ⟨0, 0, 0, 0, none, 0, 0, none, 0, 0⟩
theorem AccsV.low {w : World} {a : Addr} {n c : Nat} {l : List Acc} (h : AccsV w (some a) n c l) (hn : 0 < n) : a.block < w.heap.size := by
  obtain ⟨b, hb, hc⟩ := h.at_ 0 (l[0]'(by rw [h.len]; exact hn)) (List.getElem?_eq_getElem _)
  obtain rfl : a = b := Option.some.inj hb
  have := lt_of_cell (hc 0 _ rfl)
  rwa [add_block, add_block] at this
end Go.Proofs.Ytjokaginolpbeaa

namespace Go.Proofs.Ytjokaginolpbeaa
open Go.RowKit

/-! Are two accesses the same? And two answers? -/
/-- its bytes and words may be read -/
structure AccOK (w : World) (x : Acc) : Prop where
 data : ∃ d, BytesV w x.D x.dk x.dc d
 word : ∃ ws, WordsV w x.W x.wk x.wc ws
theorem AccOK.ext {w w' : World} {x : Acc} (h : AccOK w x) (hx : Ext w w') : AccOK w' x := ⟨let ⟨d, hd⟩ := h.data; ⟨d, hd.ext hx⟩, let ⟨d, hd⟩ := h.word; ⟨d, hd.ext hx⟩⟩
theorem AccOK.zero (w : World) : AccOK w Acc.zero := ⟨⟨[], rfl, Nat.le_refl _, Nat.zero_le _, fun _ => rfl, Cells.nil _ _⟩, ⟨[], words_nil w⟩⟩
end Go.Proofs.Ytjokaginolpbeaa

namespace Go.Proofs.Ytjokaginolpbeaa
open Go.RowKit

/-! The example of chapter 11. -/
theorem flat_at {α : Type} (f : α → List Value) (m : Nat) (hf : ∀ x, (f x).length = m) : ∀ (l : List α) (j : Nat) (x : α), l[j]? = some x → ∀ k, k < m → (l.flatMap f)[j * m + k]? = (f x)[k]?
  | [], j, x, h, k, hk => by simp at h
  | y :: l, 0, x, h, k, hk => by
    obtain rfl : y = x := by simpa using h
    rw [List.flatMap_cons, List.getElem?_append_left (by rw [hf]; omega)]
    simp
  | y :: l, j + 1, x, h, k, hk => by
    rw [List.flatMap_cons, List.getElem?_append_right (by rw [hf, Nat.succ_mul]; omega), hf]
    rw [show (j + 1) * m + k - m = j * m + k by rw [Nat.succ_mul]; omega]
    exact flat_at f m hf l j x (by simpa using h) k hk
theorem add_at (g i : Nat) : (⟨g, 0, none⟩ : Addr).add i = ⟨g, i, none⟩ := by unfold Addr.add; split <;> simp_all
def Res.cells (r : Res) : List Value := [.int .u64 r.n, .slice r.A r.k r.c, .bool r.fail]
theorem log_nil (w : World) : LogV w none 0 0 [] := ⟨rfl, Nat.zero_le _, fun j r h => by simp at h⟩
end Go.Proofs.Ytjokaginolpbeaa

namespace Go.Proofs.Ytjokaginolpbeaa
open Go.RowKit

/-! A region that draws its order, in which one operation that turns nothing may come behind the first store of the tail: it is taken first. -/
section
variable {P : Program} {ops : Array Oper} {Q : Exit → Act → World → Prop}
def lateFree (ops : Array Oper) (M : List Nat) (L : Nat) : Bool :=
  match ops[L]? with
  | none => false
  | some oL => oL.guard.isNone && (List.range ops.size).all fun j => j == L || waits M L j || match ops[j]? with
    | some oj => oj.after.any (fun e => Region.binds .any e && e.on == L) || oL.apart ops oj
    | none => true
theorem wpAny_seqL {M : List Nat} {n m : Nat} (B : SureB ops M ops.size m) (htail : ∀ k i, n ≤ i → i < k → k < ops.size → waits M k i = true) : ∀ (l : List Oper) (k : Nat) (listed : Array Bool) (a : Act) (w : World), n ≤ k → k + l.length = ops.size → (∀ j, l[j]? = ops[k + j]?) →
    listed.size = ops.size → (∀ j, j < k → listed.getD j false = true) → (∀ j, k ≤ j → listed.getD j false = false) → wpList P ops Q l a w → wpAny P .any ops Q l.length listed a w
  | [], k, listed, a, w, _, hlen, _, hs, h1, _, h => by
    refine ⟨?_, h⟩
    cases hr : Region.ready .any ops listed with
    | nil => rfl
    | cons x xs =>
      have hx : x ∈ Region.ready .any ops listed := by rw [hr]; simp
      obtain ⟨hu, o, ho, _⟩ := mem_ready.1 hx
      have hlt : x < ops.size := (Array.getElem?_eq_some_iff.1 ho).1
      have := h1 x (by simp at hlen; omega)
      rw [getD_alike hu] at this
      cases this
  | o :: l, k, listed, a, w, hn, hlen, hl, hs, h1, h2, h => by
    have h0 : ops[k]? = some o := by simpa using (hl 0).symm
    have hk : k < ops.size := (Array.getElem?_eq_some_iff.1 h0).1
    have hkr : k ∈ Region.ready .any ops listed := mem_ready.2 ⟨by
      have := h2 k (Nat.le_refl _)
      have hkl : k < listed.size := by omega
      simp [hkl] at this ⊢; exact this, o, h0, fun e he hb => h1 e.on (B.edge k o h0 e he hb)⟩
    refine ⟨fun h1 => (by rw [h1] at hkr; cases hkr), fun i hi => ?_⟩
    have hik : i = k := by
      obtain ⟨hu, oi, hoi, hall⟩ := mem_ready.1 hi
      have hi' : i < ops.size := (Array.getElem?_eq_some_iff.1 hoi).1
      rcases Nat.lt_trichotomy i k with h | h | h
      · have := h1 i h; rw [getD_alike hu] at this; cases this
      · exact h
      · have hw := htail i k hn h hi'
        have := waits_listed B (listed := listed) (fun j oj hj hlj e he hb => by
          have hjk : j < k := by
            rcases Nat.lt_or_ge j k with h' | h'
            · exact h'
            · rw [h2 j h'] at hlj; cases hlj
          exact h1 e.on (Nat.lt_trans (B.edge j oj hj e he hb) hjk)) i oi hoi hall k hw
        rw [h2 k (Nat.le_refl _)] at this
        cases this
    subst hik
    have hw : wpOp P ops Q i (wpList P ops Q l) a w := by unfold wpOp; simp only [h0]; exact h
    have hil : i < listed.size := by omega
    refine wpOp_mono (fun a' w' h' => wpAny_seqL B htail l (i + 1) _ a' w' (by omega) (by simp at hlen; omega) (fun j => by have := hl (j + 1); simpa [Nat.add_assoc, Nat.add_comm 1 j] using this) (by simp [hs]) (fun j hj => ?_) (fun j hj => ?_) h') hw
    · by_cases hji : i = j
      · subst hji; simp [hil]
      · exact getD_set_true (h1 j (by omega))
    · rw [getD_set_ne false (by omega)]; exact h2 j (by omega)
/-- the operation that is taken first -/
theorem sure_put {C : Cfg} {Gs : List Good} {a0 : Act} {w0 : World} {n m : Nat} (S : SureB ops C.M n m) (hm : a0.tmps.size = m) (hW : C.W = [])
    {listed : Array Bool} {a : Act} {w : World} (I : SureInv C ops Gs a0 w0 n listed a w) {k : Nat} {o : Oper} (ho : ops[k]? = some o) (hr : k ∈ Region.ready .any ops listed) (hkn : k < n) {v : Value} (hg : good Gs k v w) :
    SureInv C ops Gs a0 w0 n (listed.setIfInBounds k true) (a.put o.dst v) w := by
  obtain ⟨hun, o', ho', hall⟩ := mem_ready.1 hr
  have : o' = o := Option.some.inj (ho'.symm.trans ho)
  subst this
  have hks : k < ops.size := (Array.getElem?_eq_some_iff.1 ho).1
  have hkl : k < listed.size := by rw [I.size]; exact hks
  refine ⟨by simp [I.size], ?_, ?_, I.ext, by rw [put_defers]; exact I.defers, by rw [put_size]; exact I.tsize, ?_, ?_⟩
  · intro j oj hj hl e he hb
    by_cases hkj : k = j
    · subst hkj
      have : oj = o' := Option.some.inj (hj.symm.trans ho)
      subst this
      exact getD_set_true (hall e he hb)
    · rw [getD_set_ne false hkj] at hl
      exact getD_set_true (I.closed j oj hj hl e he hb)
  · intro t ht
    rw [getD_set_ne false (by omega)]
    exact I.tail t ht
  · intro t ht
    have hk' : dstOf ops k ≠ some t := ht k (by simp [hkl])
    rw [dstOf_some ho] at hk'
    have h2 : (a.put o'.dst v).tmps[t]? = a.tmps[t]? := by
      cases hd : o'.dst with
      | none => rfl
      | some d => rw [hd] at hk'; exact put_get_ne _ (fun e => hk' (by rw [e]))
    rw [h2]
    exact I.frame t (fun j hl => ht j (getD_set_true hl))
  · intro j hl _
    by_cases hkj : k = j
    · subst hkj
      refine ⟨v, fun d hd => ?_, hg⟩
      rw [dstOf_some ho] at hd
      rw [hd]
      exact put_get_same _ (by rw [I.tsize, hm]; exact S.inside k d (by rw [dstOf_some ho]; exact hd))
    · rw [getD_set_ne false hkj] at hl
      obtain ⟨u, hu, hgu⟩ := I.good j hl (fun c hc => by rw [hW] at hc; cases hc)
      refine ⟨u, fun d hd => ?_, hgu⟩
      cases hd' : o'.dst with
      | none => exact hu d hd
      | some d' =>
        rw [put_get_ne _ (fun e => S.apart k j d' hkj (by rw [dstOf_some ho]; exact hd') (by rw [e]; exact hd))]
        exact hu d hd
end
end Go.Proofs.Ytjokaginolpbeaa

namespace Go.Proofs.Ytjokaginolpbeaa
open Go.RowKit

theorem info_res : (Try.prog.info? 59).map (fun i => (i.zero, i.size, i.bytes)) = some (some (.agg #[.int .u64 0, .slice none 0 0, .bool false]), 3, 40) := by kernel_rfl
/-- results in a row -/
def resCells (l : List Res) : List Value := l.flatMap Res.cells
theorem resCells_append (a b : List Res) : resCells (a ++ b) = resCells a ++ resCells b := by simp [resCells]
theorem resCells_length (l : List Res) : (resCells l).length = l.length * 3 := by
  induction l with
  | nil => rfl
  | cons x l ih => simp only [resCells, List.flatMap_cons, List.length_append, List.length_cons] at *; rw [ih]; simp [Res.cells]; omega
theorem resCells_one (l : List Res) : ∀ u ∈ resCells l, u.oneCell' = true := by
  intro u hu
  obtain ⟨x, _, hx⟩ := List.mem_flatMap.1 hu
  simp only [Res.cells, List.mem_cons, List.not_mem_nil, or_false] at hx
  rcases hx with rfl | rfl | rfl <;> rfl
theorem LogV.of_cells {w : World} {A : Option Addr} {n c : Nat} {l : List Res} (hn : l.length = n) (hs : n ≤ 65536) (h : Cells w A (resCells l)) : LogV w A n c l := by
  refine ⟨hn, hs, fun j r hj => ?_⟩
  have h3 : ∀ k, k < 3 → (resCells l)[j * 3 + k]? = (Res.cells r)[k]? := fun k hk => flat_at Res.cells 3 (fun _ => rfl) l j r hj k hk
  have hne : resCells l ≠ [] := fun e => by
    have h0 := h3 0 (by omega)
    rw [e] at h0
    simp [Res.cells] at h0
  obtain ⟨a, ha, hc⟩ := h hne
  refine ⟨a, ha, ?_, ?_, ?_⟩
  · exact hc _ _ ((h3 0 (by omega)).trans rfl)
  · rw [add_add3]; exact hc _ _ ((h3 1 (by omega)).trans rfl)
  · rw [add_add3]; exact hc _ _ ((h3 2 (by omega)).trans rfl)
theorem ownsRow_nil (w : World) (base size : Nat) (e : TypeId) : w.ownsRow base e size (.slice none 0 0) 0 [] := ⟨by simp, .inl ⟨rfl, rfl⟩⟩
/-- a world in a place -/
def BoxW (w : World) (g : Nat) (X : WldK) : Prop := ∃ v : Array Value, w.heap[g]? = some (.cells v 51 (0, 0)) ∧ WldV w (.agg v) X
theorem BoxW.ext {w w' : World} {g : Nat} {X : WldK} (h : BoxW w g X) (hx : Ext w w') : BoxW w' g X := let ⟨v, h1, h2⟩ := h; ⟨v, heap_ext h1 hx, h2.ext hx⟩
theorem WldV.form6 {w : World} {v : Value} {X : WldK} (h : WldV w v X) : ∃ (A : Option Addr) (q c : Nat) (B : Option Addr) (b : Nat) (C : Option Addr) (d : Nat), v = .agg #[.int .i64 X.T, .int .i64 X.C, .slice A q c, .int .u64 X.R, .slice B X.n b, .slice C X.n d] := by
  obtain ⟨A, q, c, B, C, b, d, rfl, -, -⟩ := h
  exact ⟨A, q, c, B, b, C, d, rfl⟩
theorem BoxW.form {w : World} {g : Nat} {X : WldK} (h : BoxW w g X) : ∃ (A : Option Addr) (q c : Nat) (B : Option Addr) (b : Nat) (C : Option Addr) (d : Nat), w.heap[g]? = some (.cells #[.int .i64 X.T, .int .i64 X.C, .slice A q c, .int .u64 X.R, .slice B X.n b, .slice C X.n d] 51 (0, 0)) ∧
    WldV w (.agg #[.int .i64 X.T, .int .i64 X.C, .slice A q c, .int .u64 X.R, .slice B X.n b, .slice C X.n d]) X := by
  obtain ⟨v, h1, h2⟩ := h
  obtain ⟨A, q, c, B, b, C, d, e⟩ := h2.form6
  obtain rfl := Value.agg.inj e
  exact ⟨A, q, c, B, b, C, d, h1, h2⟩
theorem cells_heap {w : World} {g : Nat} {cs : List Value} {T : TypeId} {fr : Nat × Nat} (h : w.heap[g]? = some (.cells cs.toArray T fr)) : Cells w (some ⟨g, 0, none⟩) cs := fun _ =>
  ⟨_, rfl, fun j u hj => by rw [add_at]; simp only [World.cell?, h, Option.isSome_none, Bool.false_eq_true, if_false]; simpa using hj⟩
open Go.RowKit

/-! A row of results of the call's own, its spare part known too: what is laid onto it turns no world. -/
theorem resCells_cons (r : Res) (l : List Res) : resCells (r :: l) = .int .u64 r.n :: .slice r.A r.k r.c :: .bool r.fail :: resCells l := rfl
theorem resCells_take : ∀ (l : List Res) (n : Nat), (resCells l).take (n * 3) = resCells (l.take n)
  | [], n => by simp [resCells]
  | r :: l, 0 => by simp [resCells]
  | r :: l, n + 1 => by
    rw [List.take_succ_cons, resCells_cons, resCells_cons, show (n + 1) * 3 = n * 3 + 1 + 1 + 1 by omega, List.take_succ_cons, List.take_succ_cons, List.take_succ_cons, resCells_take l n]
theorem resCells_drop : ∀ (l : List Res) (n : Nat), (resCells l).drop (n * 3) = resCells (l.drop n)
  | [], n => by simp [resCells]
  | r :: l, 0 => by simp
  | r :: l, n + 1 => by
    rw [List.drop_succ_cons, resCells_cons, show (n + 1) * 3 = n * 3 + 1 + 1 + 1 by omega, List.drop_succ_cons, List.drop_succ_cons, List.drop_succ_cons, resCells_drop l n]
theorem res_boxish : ∀ l : List Res, boxish (resCells l) = true
  | [] => rfl
  | [r] => rfl
  | r :: r' :: l => by
    have h := res_boxish (r' :: l)
    rw [resCells_cons] at h
    rw [resCells_cons, resCells_cons]
    simpa [boxish, kindV] using h
theorem zero_res (k : Nat) : (Builtin.zeroCells #[.int .u64 0, .slice none 0 0, .bool false] k).toList = resCells (List.replicate k ⟨0, none, 0, 0, false⟩) := by
  refine List.ext_getElem? fun x => ?_
  by_cases hx : x < k * 3
  · have h1 : (List.replicate k (⟨0, none, 0, 0, false⟩ : Res))[x / 3]? = some ⟨0, none, 0, 0, false⟩ := by rw [List.getElem?_replicate]; rw [if_pos (by omega)]
    have h2 := flat_at Res.cells 3 (fun _ => rfl) _ (x / 3) _ h1 (x % 3) (Nat.mod_lt _ (by omega))
    rw [show x / 3 * 3 + x % 3 = x by omega] at h2
    rw [resCells, h2]
    have h3 : x % 3 = 0 ∨ x % 3 = 1 ∨ x % 3 = 2 := by omega
    rcases h3 with h3 | h3 | h3 <;> simp [Builtin.zeroCells, Res.cells, h3, hx]
  · rw [List.getElem?_eq_none (by simp [Builtin.zeroCells]; omega), List.getElem?_eq_none (by rw [resCells_length]; simp; omega)]
def ResOwn (w : World) (base : Nat) (v : Value) (n : Nat) (rs : List Res) : Prop :=
  rs.length = n ∧ ((v = .slice none 0 0 ∧ n = 0) ∨ ∃ g cap l, v = .slice (some ⟨g, 0, none⟩) n cap ∧ base ≤ g ∧ w.heap[g]? = some (.cells (resCells l).toArray 59 (0, 0)) ∧ n ≤ cap ∧ cap ≤ maxLen ∧ l.length = cap ∧ l.take n = rs)
theorem ResOwn.nil (w : World) (base : Nat) : ResOwn w base (.slice none 0 0) 0 [] := ⟨rfl, .inl ⟨rfl, rfl⟩⟩
theorem ResOwn.kept {w w' : World} {base : Nat} {v : Value} {n : Nat} {rs : List Res} (h : ResOwn w base v n rs) (hk : ∀ g o, base ≤ g → w.heap[g]? = some o → w'.heap[g]? = some o) : ResOwn w' base v n rs := by
  refine ⟨h.1, ?_⟩
  rcases h.2 with h2 | ⟨g, cap, l, e, hb, hg, h3⟩
  · exact .inl h2
  · exact .inr ⟨g, cap, l, e, hb, hk g _ hb hg, h3⟩
theorem ResOwn.ext {w w' : World} {base : Nat} {v : Value} {n : Nat} {rs : List Res} (h : ResOwn w base v n rs) (hx : Ext w w') : ResOwn w' base v n rs := h.kept fun _ _ _ ho => heap_ext ho hx
theorem ResOwn.log {w : World} {base : Nat} {v : Value} {n : Nat} {rs : List Res} (h : ResOwn w base v n rs) (hn : n ≤ 65536) : ∃ B c, v = .slice B n c ∧ LogV w B n c rs ∧ (B = none → c = 0 ∧ n = 0) ∧ Cells w B (resCells rs) := by
  obtain ⟨hl, h⟩ := h
  rcases h with ⟨rfl, rfl⟩ | ⟨g, cap, l, rfl, hb, hg, h1, h2, h3, rfl⟩
  · have : rs = [] := List.eq_nil_of_length_eq_zero hl
    subst this
    exact ⟨none, 0, rfl, log_nil w, fun _ => ⟨rfl, rfl⟩, Cells.nil _ _⟩
  · have hc : Cells w (some ⟨g, 0, none⟩) (resCells (l.take n)) := fun _ => ⟨_, rfl, fun j u hj => by
      rw [← resCells_take, List.getElem?_take] at hj
      split at hj
      · obtain ⟨a, ha, hc⟩ := cells_heap hg (fun e => by rw [e] at hj; simp at hj)
        cases ha
        exact hc j u hj
      · cases hj⟩
    exact ⟨_, _, rfl, LogV.of_cells hl hn hc, (by intro h; cases h), hc⟩
/-- a world outlasts what may turn but such a row -/
theorem WldV.grown {w w' : World} {base : Nat} {v : Value} {n : Nat} {rs : List Res} (h : ResOwn w base v n rs) (hg : w.grownBy w' v.ownBlock) {x : Value} {X : WldK} (hV : WldV w x X) (hl : 2 ≤ X.ws.length) : WldV w' x X := by
  rcases h.2 with ⟨rfl, _⟩ | ⟨g, cap, l, rfl, _, hh, _⟩
  · exact hV.ext ⟨hg.os, hg.tape, hg.output, hg.size, fun k hk => hg.block k hk (by simp [Value.ownBlock])⟩
  · refine hV.but hl (g := g) (fun k o hk ho => ?_) hh (res_boxish l)
    rw [hg.block k (Array.getElem?_eq_some_iff.1 ho).1 (by simp [Value.ownBlock]; exact hk)]; exact ho
theorem grown_heap {w w' : World} {base : Nat} {v : Value} {n : Nat} {rs : List Res} (h : ResOwn w base v n rs) (hg : w.grownBy w' v.ownBlock) {k : Nat} {o : Obj} (hk : k < base) (ho : w.heap[k]? = some o) : w'.heap[k]? = some o := by
  rw [hg.block k (Array.getElem?_eq_some_iff.1 ho).1 ?_]
  · exact ho
  · rcases h.2 with ⟨rfl, _⟩ | ⟨g, cap, l, rfl, hb, hh, _⟩
    · simp [Value.ownBlock]
    · simp only [Value.ownBlock]; intro e; injection e with e; omega
theorem grown_ext {w0 w w' : World} {base : Nat} {v : Value} {n : Nat} {rs : List Res} (h : ResOwn w base v n rs) (hg : w.grownBy w' v.ownBlock) (h0 : Ext w0 w) (hb : w0.heap.size ≤ base) : Ext w0 w' :=
  ⟨hg.os.trans h0.os, hg.tape.trans h0.tape, hg.output.trans h0.output, Nat.le_trans h0.size hg.size, fun k hk => by
    have h1 : k < w.heap.size := Nat.lt_of_lt_of_le hk h0.size
    obtain ⟨o, ho⟩ : ∃ o, w.heap[k]? = some o := ⟨_, Array.getElem?_eq_getElem h1⟩
    rw [grown_heap h hg (by omega) ho, ← ho]
    exact h0.block k hk⟩
theorem run_append_res {P : Program} {w : World} (base : Nat) (t ty : TypeId) (i : TypeInfo) (ht : P.underlying t = some (.slice 59)) (hi : P.info? 59 = some i) (hz : i.zero = some (.agg #[.int .u64 0, .slice none 0 0, .bool false])) (hsize : i.size = 3) (hby : i.bytes = 40)
    (v : Value) (n : Nat) (rs : List Res) (hown : ResOwn w base v n rs) (a : Addr) (c : Nat) (r : Res) (hnews : ∀ j u, (resCells [r])[j]? = some u → w.cell? (a.add j) = some u) (hn : n + 1 ≤ 1000) (hbase : base ≤ w.heap.size) :
    ∃ v' w', (Builtin.append_ #[t, t] ty #[v, .slice (some a) 1 c]).run P w = .ok v' w' ∧ ResOwn w' base v' (n + 1) (rs ++ [r]) ∧ w.grownBy w' v.ownBlock := by
  have hl1 : (resCells [r]).length = 1 * i.size := by rw [hsize, resCells_length]; rfl
  have h1 := resCells_one [r]
  have hlen : (rs ++ [r]).length = n + 1 := by rw [List.length_append, hown.1]; rfl
  have grown : ∀ (old : Nat), old < n + 1 → ∀ (row : Option Nat),
      ResOwn (w.drew.alloc (.cells ((resCells rs).toArray ++ (resCells [r]).toArray ++ Builtin.zeroCells #[.int .u64 0, .slice none 0 0, .bool false] (grownCap w (n + 1) old 59 - (n + 1))) 59)) base
        (.slice (some ⟨w.heap.size, 0, none⟩) (n + 1) (grownCap w (n + 1) old 59)) (n + 1) (rs ++ [r]) ∧
      w.grownBy (w.drew.alloc (.cells ((resCells rs).toArray ++ (resCells [r]).toArray ++ Builtin.zeroCells #[.int .u64 0, .slice none 0 0, .bool false] (grownCap w (n + 1) old 59 - (n + 1))) 59)) row := by
    intro old ho row
    have hge := grownCap_ge w (n + 1) old 59
    have hcm : grownCap w (n + 1) old 59 ≤ maxLen := grownCap_le_maxLen w (n + 1) old _ (by simp only [maxLen]; omega)
    refine ⟨⟨hlen, .inr ⟨w.heap.size, _, (rs ++ [r]) ++ List.replicate (grownCap w (n + 1) old 59 - (n + 1)) ⟨0, none, 0, 0, false⟩, rfl, hbase, ?_, hge, hcm, ?_, ?_⟩⟩, ⟨rfl, rfl, rfl, by simp, fun k hk _ => heap_alloc_old w.drew _ hk⟩⟩
    · have e : ((resCells rs).toArray ++ (resCells [r]).toArray ++ Builtin.zeroCells #[.int .u64 0, .slice none 0 0, .bool false] (grownCap w (n + 1) old 59 - (n + 1))) = (resCells ((rs ++ [r]) ++ List.replicate (grownCap w (n + 1) old 59 - (n + 1)) ⟨0, none, 0, 0, false⟩)).toArray := by
        rw [resCells_append, resCells_append, ← zero_res]
        simp
      rw [e]
      exact heap_alloc_new w.drew _
    · rw [List.length_append, hlen, List.length_replicate]; omega
    · rw [← hlen]; exact List.take_left
  rcases hown.2 with ⟨rfl, rfl⟩ | ⟨g, cap, l, rfl, hbg, hg, hnc, hcm, hcl, htake⟩
  · have hx : rs = [] := List.eq_nil_of_length_eq_zero hown.1
    subst hx
    have hr := run_append_nil (P := P) w t ty 59 i _ ht hi hz a 1 c (resCells [r]) hl1 hnews (by omega) (by omega) (by rw [hby]; omega)
    have hgr := grown 0 (by omega) (Value.ownBlock (.slice none 0 0))
    simp only [Nat.zero_add, resCells, List.flatMap_nil, Array.empty_append] at hgr hr ⊢
    exact ⟨_, _, hr, hgr.1, hgr.2⟩
  · by_cases hroom : n + 1 ≤ cap
    · have hfit : n * i.size + (resCells [r]).length ≤ (resCells l).toArray.size := by rw [hl1, hsize, List.size_toArray, resCells_length, hcl]; omega
      have hr := run_append_room (P := P) w t ty 59 i ht hi g n cap _ hg a 1 c (resCells [r]) hl1 hnews h1 hroom hfit
      have e : ((resCells l).take (n * i.size) ++ resCells [r] ++ (resCells l).drop (n * i.size + (resCells [r]).length)) = resCells ((rs ++ [r]) ++ l.drop (n + 1)) := by
        rw [hl1, hsize, show n * 3 + 1 * 3 = (n + 1) * 3 by omega, resCells_take, resCells_drop, htake, resCells_append, resCells_append]
      rw [List.toList_toArray, e] at hr
      refine ⟨_, _, hr, ⟨hlen, .inr ⟨g, cap, _, rfl, hbg, setRow_heap w g _ _ _ _ hg, hroom, hcm, ?_, ?_⟩⟩, ⟨rfl, rfl, rfl, by simp, fun k _ hk => setRow_other w g k _ (fun e => hk (by simp [Value.ownBlock, e]))⟩⟩
      · rw [List.length_append, hlen, List.length_drop]; omega
      · rw [← hlen]; exact List.take_left
    · have holds : ∀ j u, (resCells rs)[j]? = some u → w.cell? ((⟨g, 0, none⟩ : Addr).add j) = some u := fun j u hj => by
        rw [← htake, ← resCells_take, List.getElem?_take] at hj
        split at hj
        · obtain ⟨a', ha, hc⟩ := cells_heap hg (fun e => by rw [e] at hj; simp at hj)
          cases ha
          exact hc j u hj
        · cases hj
      have hr := run_append_grow (P := P) w t ty 59 i _ ht hi hz ⟨g, 0, none⟩ n cap (resCells rs) (by rw [hsize, resCells_length, hown.1]) holds a 1 c (resCells [r]) hl1 hnews (by omega) (by omega) (growslice_fits (by omega) (by rw [hby]; omega))
      have hgr := grown cap (by omega) (Value.ownBlock (.slice (some ⟨g, 0, none⟩) n cap))
      exact ⟨_, _, hr, hgr.1, hgr.2⟩
theorem wpList_append_res {P : Program} {ops : Array Oper} {rest : List Oper} {o : Oper} {a : Act} {Q : Exit → Act → World → Prop} {w : World} (hgd : o.guard = none) (s x : Operand) (t : TypeId)
    (ho : o.op = .call { callee := .builtin .append, args := #[s, x], argTypes := #[t, t] }) (base : Nat) (i : TypeInfo) (ht : P.underlying t = some (.slice 59)) (hi : P.info? 59 = some i) (hz : i.zero = some (.agg #[.int .u64 0, .slice none 0 0, .bool false])) (hsize : i.size = 3) (hby : i.bytes = 40)
    (v : Value) (n : Nat) (rs : List Res) (hs : a.eval s = v) (hown : ResOwn w base v n rs) (ad : Addr) (c : Nat) (r : Res) (hx : a.eval x = .slice (some ad) 1 c) (hnews : ∀ j u, (resCells [r])[j]? = some u → w.cell? (ad.add j) = some u) (hn : n + 1 ≤ 1000) (hbase : base ≤ w.heap.size)
    (h : ∀ v' w', ResOwn w' base v' (n + 1) (rs ++ [r]) → w.grownBy w' v.ownBlock → wpList P ops Q rest (a.put o.dst v') w') : wpList P ops Q (o :: rest) a w := by
  obtain ⟨v', w', hr, h2, h3⟩ := run_append_res (P := P) (w := w) base t o.type i ht hi hz hsize hby v n rs hown ad c r hnews hn hbase
  refine wpList_plain hgd fun _ hK => ?_
  unfold Oper.wp execOp
  simp only [ho, resolve, invoke, builtin, Sem.run_bind, Sem.run_pure, Result.andThen_ok, List.map_toArray, List.map_cons, List.map_nil, hs, hx, hr]
  exact hK _ _ (h v' w' h2 h3)
theorem heap_cells {w : World} {g : Nat} {cs : List Value} {T : TypeId} {fr : Nat × Nat} (h : w.heap[g]? = some (.cells cs.toArray T fr)) : ∀ j u, cs[j]? = some u → w.cell? ((⟨g, 0, none⟩ : Addr).add j) = some u := fun j u hj => by
  rw [add_at]; simp only [World.cell?, h, Option.isSome_none, Bool.false_eq_true, if_false]; simpa using hj
end Go.Proofs.Ytjokaginolpbeaa

namespace Go.Proofs.Ytjokaginolpbeaa
open Go.RowKit

/-! pool.Pop and pool.Push as functions of what a log tells: what is asked next, or the answer and how many were told. -/
inductive ProgE where
  | stop (x : Acc)
  | ret (r : Int) (k : Nat)
def accL (i : Int) : Acc := ⟨0, i, 0, 0, none, 0, 0, none, 0, 0⟩
def accS (i a : Int) : Acc := ⟨1, i, a, 0, none, 0, 0, none, 0, 0⟩
def accC (i a b : Int) : Acc := ⟨2, i, a, b, none, 0, 0, none, 0, 0⟩
/-- the place of a record's link -/
def linkI (t r : Int) : Int := 8 + t + 8 * (r - 1) + 7
/-- a top behind a top -/
def topN (r w : Int) : Int := topF r ((tagF w + 1) % 18446744073709551616)
def popN (t : Int) (k : Nat) : List Int → ProgE
  | [] => .stop (accL 1)
  | [w] => if firstF w = 0 then .ret 0 (k + 1) else .stop (accL (linkI t (firstF w)))
  | [w, n] => if firstF w = 0 then .ret 0 (k + 1) else .stop (accC 1 w (topN (firstF n) w))
  | w :: _ :: c :: l => if firstF w = 0 then .ret 0 (k + 1) else if c = 1 then .ret (firstF w) (k + 3) else popN t (k + 3) l
def pushN (t r : Int) (k : Nat) : List Int → ProgE
  | [] => .stop (accL 1)
  | [w] => .stop (accS (linkI t r) (firstF w))
  | [w, _] => .stop (accC 1 w (topN r w))
  | _ :: _ :: c :: l => if c = 1 then .ret 0 (k + 3) else pushN t r (k + 3) l
end Go.Proofs.Ytjokaginolpbeaa

namespace Go.Proofs.Ytjokaginolpbeaa
open Go.RowKit

/-! Programs as trees: an access of a word is asked, and what it tells says how it goes on. -/
structure Ask where
  kind : Int
  cell : Int
  a : Int
  b : Int
def Ask.acc (x : Ask) : Acc := ⟨x.kind, x.cell, x.a, x.b, none, 0, 0, none, 0, 0⟩
def Ask.K (x : Ask) : AccK := ⟨x.kind, x.cell, x.a, x.b, [], []⟩
/-- an access that may be made: of a word, by numbers that are words -/
def Ask.Ok (x : Ask) : Prop := 0 ≤ x.kind ∧ x.kind ≤ 4 ∧ U64 x.a ∧ U64 x.b
def askL (i : Int) : Ask := ⟨0, i, 0, 0⟩
def askS (i a : Int) : Ask := ⟨1, i, a, 0⟩
def askC (i a b : Int) : Ask := ⟨2, i, a, b⟩
def askX (i a : Int) : Ask := ⟨4, i, a, 0⟩
theorem u64_zero : U64 0 := by unfold U64; omega
theorem askL_ok (i : Int) : (askL i).Ok := ⟨by simp [askL], by simp [askL], u64_zero, u64_zero⟩
theorem askS_ok (i : Int) {a : Int} (h : U64 a) : (askS i a).Ok := ⟨by simp [askS], by simp [askS], h, u64_zero⟩
theorem askC_ok (i : Int) {a b : Int} (h : U64 a) (k : U64 b) : (askC i a b).Ok := ⟨by simp [askC], by simp [askC], h, k⟩
theorem askX_ok (i : Int) {a : Int} (h : U64 a) : (askX i a).Ok := ⟨by simp [askX], by simp [askX], h, u64_zero⟩
inductive PT (α : Type) where
  | ret (a : α)
  | out
  | ask (x : Ask) (k : Int → PT α)
def PT.bind {α β : Type} : PT α → (α → PT β) → PT β
  | .ret a, f => f a
  | .out, _ => .out
  | .ask x k, f => .ask x fun n => (k n).bind f
inductive PR (σ α : Type) where
  | ret (a : α) (s : σ)
  | stop (x : Ask)
  | out
def PT.run {σ α : Type} (st : σ → Ask → Option (Int × σ)) : PT α → σ → PR σ α
  | .ret a, s => .ret a s
  | .out, _ => .out
  | .ask x k, s => match st s x with
    | none => .stop x
    | some (n, s') => (k n).run st s'
theorem PT.run_bind {σ α β : Type} (st : σ → Ask → Option (Int × σ)) (f : α → PT β) : ∀ (T : PT α) (s : σ), (T.bind f).run st s = match T.run st s with
    | .ret a s' => (f a).run st s'
    | .stop x => .stop x
    | .out => .out
  | .ret a, s => rfl
  | .out, s => rfl
  | .ask x k, s => by
    simp only [PT.bind, PT.run]
    cases st s x with
    | none => rfl
    | some q => exact PT.run_bind st f (k q.1) q.2
/-- a log's numbers tell -/
def stL : List Int → Ask → Option (Int × List Int)
  | [], _ => none
  | n :: l, _ => some (n, l)
/-- a world tells -/
def stX (me : Int) (X : WldK) (x : Ask) : Option (Int × WldK) := some ((doR X x.K false).N, doK X me x.K false)
/-- a tree whose accesses may all be made, if it is told words -/
def PT.Ok {α : Type} : PT α → Prop
  | .ret _ => True
  | .out => True
  | .ask x k => x.Ok ∧ ∀ n, U64 n → (k n).Ok
theorem PT.Ok.bind {α β : Type} {f : α → PT β} : ∀ {T : PT α}, T.Ok → (∀ a, (f a).Ok) → (T.bind f).Ok
  | .ret a, _, h => h a
  | .out, _, _ => trivial
  | .ask _ _, h, hf => ⟨h.1, fun n hn => (h.2 n hn).bind hf⟩
def U64s (l : List Int) : Prop := ∀ n ∈ l, U64 n
theorem PT.Ok.stop {α : Type} {x : Ask} : ∀ {T : PT α} {l : List Int}, T.Ok → U64s l → T.run stL l = .stop x → x.Ok
  | .ret a, l, _, _, h => by simp [PT.run] at h
  | .out, l, _, _, h => by simp [PT.run] at h
  | .ask y k, [], hT, _, h => by simp only [PT.run, stL, PR.stop.injEq] at h; exact h ▸ hT.1
  | .ask y k, n :: l, hT, hl, h => by
    simp only [PT.run, stL] at h
    exact PT.Ok.stop (hT.2 n (hl n (by simp))) (fun m hm => hl m (by simp [hm])) h
/-- the tree behind a log -/
def PT.after {α : Type} : PT α → List Int → PT α
  | T, [] => T
  | .ask _ k, n :: l => (k n).after l
  | T, _ :: _ => T
theorem PT.after_snoc {α : Type} {x : Ask} {k : Int → PT α} (n : Int) : ∀ {T : PT α} {l : List Int}, T.after l = .ask x k → T.after (l ++ [n]) = k n
  | .ret a, [], h => by simp [PT.after] at h
  | .ret a, _ :: _, h => by simp [PT.after] at h
  | .out, [], h => by simp [PT.after] at h
  | .out, _ :: _, h => by simp [PT.after] at h
  | .ask y k', [], h => by
    simp only [PT.after, PT.ask.injEq] at h
    obtain ⟨rfl, rfl⟩ := h
    simp [PT.after]
  | .ask y k', m :: l, h => by
    simp only [PT.after] at h
    simpa [PT.after] using PT.after_snoc n h
theorem PT.run_after {α : Type} : ∀ {T : PT α} {l : List Int} {x : Ask} {k : Int → PT α}, T.after l = .ask x k → T.run stL l = .stop x
  | .ret a, [], _, _, h => by simp [PT.after] at h
  | .ret a, _ :: _, _, _, h => by simp [PT.after] at h
  | .out, [], _, _, h => by simp [PT.after] at h
  | .out, _ :: _, _, _, h => by simp [PT.after] at h
  | .ask y k', [], x, k, h => by
    simp only [PT.after, PT.ask.injEq] at h
    obtain ⟨rfl, rfl⟩ := h
    rfl
  | .ask y k', m :: l, x, k, h => by
    simp only [PT.after] at h
    simp only [PT.run, stL]
    exact PT.run_after h
/-- it has asked all that the log tells -/
def PT.Deep {α : Type} : PT α → List Int → Prop
  | _, [] => True
  | .ask _ k, n :: l => (k n).Deep l
  | _, _ :: _ => False
theorem PT.deep_snoc {α : Type} {x : Ask} {k : Int → PT α} (n : Int) : ∀ {T : PT α} {l : List Int}, T.Deep l → T.after l = .ask x k → T.Deep (l ++ [n])
  | .ret a, [], _, h => by simp [PT.after] at h
  | .ret a, _ :: _, hd, _ => hd.elim
  | .out, [], _, h => by simp [PT.after] at h
  | .out, _ :: _, hd, _ => hd.elim
  | .ask y k', [], _, h => by
    simp only [List.nil_append, PT.Deep]
  | .ask y k', m :: l, hd, h => by
    simp only [PT.after] at h
    exact PT.deep_snoc n (T := k' m) hd h
theorem PT.run_deep {α : Type} {a : α} : ∀ {T : PT α} {l : List Int}, T.Deep l → T.after l = .ret a → T.run stL l = .ret a []
  | .ret b, [], _, h => by simp only [PT.after, PT.ret.injEq] at h; subst h; rfl
  | .ret b, _ :: _, hd, _ => hd.elim
  | .out, [], _, h => by simp [PT.after] at h
  | .out, _ :: _, hd, _ => hd.elim
  | .ask y k', [], _, h => by simp [PT.after] at h
  | .ask y k', m :: l, hd, h => by
    simp only [PT.after] at h
    simp only [PT.run, stL]
    exact PT.run_deep (T := k' m) hd h
/-- what an operation asks next, or answers -/
inductive NextE where
  | stop (x : Acc)
  | done (o : OutN)
def NextE.fin : NextE → Ending
  | .stop x => .returned (.tuple #[.agg x.cells, .agg outZero, .bool false])
  | .done o => .returned (.tuple #[.agg accZero, .agg o.cells, .bool true])
def nextT (T : PT OutN) (ns : List Int) : NextE := match T.run stL ns with
  | .ret o _ => .done o
  | .stop x => .stop x.acc
  | .out => .done ⟨0, false, 0, 0⟩
/-- how many accesses a tree makes of a world, its answer, and the world then -/
inductive Goes {α : Type} (me : Int) : PT α → WldK → Nat → α → WldK → Prop where
  | ret (a : α) (X : WldK) : Goes me (.ret a) X 0 a X
  | ask {x : Ask} {k : Int → PT α} {X X' : WldK} {j : Nat} {a : α} (h : Goes me (k (doR X x.K false).N) (doK X me x.K false) j a X') : Goes me (.ask x k) X (j + 1) a X'
theorem Goes.run {α : Type} {me : Int} {T : PT α} {X X' : WldK} {j : Nat} {a : α} (h : Goes me T X j a X') : T.run (stX me) X = .ret a X' := by
  induction h with
  | ret => rfl
  | ask _ ih => exact ih
theorem Goes.bind {α β : Type} {me : Int} {T : PT α} {f : α → PT β} {X X1 X2 : WldK} {i j : Nat} {a : α} {b : β} (h : Goes me T X i a X1) (h2 : Goes me (f a) X1 j b X2) : Goes me (T.bind f) X (i + j) b X2 := by
  induction h with
  | ret => simpa [PT.bind] using h2
  | @ask x k X X' i a h ih =>
    have := Goes.ask (me := me) (x := x) (k := fun n => (k n).bind f) (ih h2)
    rw [show i + 1 + j = i + j + 1 by omega]
    exact this
/-- an operation that steps alone: the world behind it, its answer, and whether it ended within so many rounds -/
def aloneN (P : List Int → NextE) (me : Int) : Nat → WldK → List Int → WldK × OutN × Bool
  | 0, X, _ => (X, ⟨0, false, 0, 0⟩, false)
  | n + 1, X, ns => match P ns with
    | .done o => (X, o, true)
    | .stop x => aloneN P me n (doK X me ⟨x.kind, x.cell, x.a, x.b, [], []⟩ false) (ns ++ [(doR X ⟨x.kind, x.cell, x.a, x.b, [], []⟩ false).N])
theorem alone_goes {me : Int} {T0 T : PT OutN} {X X' : WldK} {j : Nat} {o : OutN} (h : Goes me T X j o X') : ∀ {P : List Int → NextE} {n : Nat} {ns : List Int}, (∀ l : List Int, l.length ≤ ns.length + j → P l = nextT T0 l) → T0.after ns = T → T0.Deep ns → j < n → aloneN P me n X ns = (X', o, true) := by
  induction h with
  | ret a X =>
    intro P n ns hP ha hd hn
    obtain ⟨n, rfl⟩ : ∃ m, n = m + 1 := ⟨n - 1, by omega⟩
    simp only [aloneN, hP ns (by omega), nextT, PT.run_deep hd ha]
  | @ask x k X X' j a h ih =>
    intro P n ns hP ha hd hn
    obtain ⟨n, rfl⟩ : ∃ m, n = m + 1 := ⟨n - 1, by omega⟩
    simp only [aloneN, hP ns (by omega), nextT, PT.run_after ha]
    exact ih (fun l hl => hP l (by simp at hl; omega)) (PT.after_snoc _ ha) (PT.deep_snoc _ hd ha) (by omega)
end Go.Proofs.Ytjokaginolpbeaa

namespace Go.Proofs.Ytjokaginolpbeaa
open Go.RowKit

/-! pool.Pop, pool.Push as trees. -/
def popT (t : Int) : Nat → PT Int
  | 0 => .out
  | f + 1 => .ask (askL 1) fun w => if firstF w = 0 then .ret 0 else .ask (askL (linkI t (firstF w))) fun n => .ask (askC 1 w (topN (firstF n) w)) fun c => if c = 1 then .ret (firstF w) else popT t f
def pushT (t r : Int) : Nat → PT Int
  | 0 => .out
  | f + 1 => .ask (askL 1) fun w => .ask (askS (linkI t r) (firstF w)) fun _ => .ask (askC 1 w (topN r w)) fun c => if c = 1 then .ret 0 else pushT t r f
def stM {α : Type} (num : α → Int) : List α → Ask → Option (Int × List α)
  | [], _ => none
  | n :: l, _ => some (num n, l)
theorem popT_ok (t : Int) : ∀ f, (popT t f).Ok
  | 0 => trivial
  | f + 1 => ⟨askL_ok _, fun w hw => by
    show PT.Ok (ite _ _ _)
    split
    · trivial
    · exact ⟨askL_ok _, fun n _ => ⟨askC_ok _ hw (top_u64 _ _), fun c _ => by
        show PT.Ok (ite _ _ _)
        split
        · trivial
        · exact popT_ok t f⟩⟩⟩
theorem pushT_ok (t r : Int) : ∀ f, (pushT t r f).Ok
  | 0 => trivial
  | f + 1 => ⟨askL_ok _, fun w hw => ⟨askS_ok _ (by have := hw.1; have := hw.2; unfold firstF U64; omega), fun n _ => ⟨askC_ok _ hw (top_u64 _ _), fun c _ => by
        show PT.Ok (ite _ _ _)
        split
        · trivial
        · exact pushT_ok t r f⟩⟩⟩
end Go.Proofs.Ytjokaginolpbeaa

namespace Go.Proofs.Ytjokaginolpbeaa
open Go.ChangeShapes Go.WideShapes Go.ChangeAt Go.RowKit

/-! A law's row out of a contract: it returns true, and below the heap's old size nothing has turned. -/
section
variable {H : Type} {enc : TypeId × Value → H} {P : Program}
theorem trodAll_below (hl : laidOutB P = true) {W W' : World} (hb : Below W.heap.size W W') :
    ∀ (ts : List TypeId) (vs : List Value) (ds : List (DataW H)) (ps : List MemPlace), (∀ t ∈ ts, P.readableRec t = true ∧ t < P.types.size) →
      DataW.TrodAll enc P W 0 (fun _ => true) true ts vs ds ps → (∀ x ∈ ps, x.block < W.heap.size) → DataW.TrodAll enc P W' 0 (fun b => decide (b < W.heap.size)) true ts vs ds ps
  | [], [], [], _, _, h, _ => h
  | t :: ts, v :: vs, d :: ds, ps, hr, h, hlt => by
    obtain ⟨p, q, h1, h2, rfl⟩ := h
    obtain ⟨hr1, hr2⟩ := hr t (by simp)
    exact ⟨p, q, Below.trod hl hr1 hr2 h1 hb (fun x hx => hlt x (by simp [hx])),
      trodAll_below hl hb ts vs ds q (fun u hu => hr u (by simp [hu])) h2 (fun x hx => hlt x (by simp [hx])), rfl⟩
  | [], [], _ :: _, _, _, h, _ => by cases h
  | [], _ :: _, _, _, _, h, _ => by cases h
  | _ :: _, [], _, _, _, h, _ => by cases h
  | _ :: _, _ :: _, [], _, _, h, _ => by cases h
end
set_option maxRecDepth 1000000 in
theorem own : ownKnob Try.prog.godebug = none := by kernel_rfl
set_option maxRecDepth 1000000 in
theorem laid : laidOutB Try.prog = true := by kernel_rfl

set_option maxRecDepth 1000000 in
theorem law_row (os : Os) (started : os.Started) (H : Type) (enc : TypeId × Value → H) {f : FuncId} {F : Func} (spec : ChangeSpec)
    (hv : spec.vars = []) (hspec : ∀ ds : List (DataW H), ds.length = F.params.toList.length → spec.fn H (ds ++ []) = { results := [.lit (.bool true)], args := ds })
    (hnoinit : Try.checked.prog.inits.idxOf? f = none) (hfn : Try.checked.prog.funcs[f]? = some F) (hres : F.resultTypes = #[4])
    (hread : ∀ t ∈ F.params.toList, Try.prog.readableRec t = true ∧ t < Try.prog.types.size)
    (witness : ∃ (w : World) (tape : Tape) (i : Input), w.os = os ∧ (w.forCall tape i).Shaped Try.checked.prog ∧ i.vars = [] ∧ Input.okWide Try.checked.prog (w.forCall tape i) .any w.heap.size f i ∧
      spec.pre6 enc Try.checked.prog F [] false (w.forCall tape i).memory i.args ∧ ({} : Assume).holds Try.checked.prog (lone (Frame.enter Try.checked.prog f i.args .normal) [] (w.forCall tape i)))
    (walk : ∀ (W : World) (base : Nat) (args : Array Value) (ds : List (DataW H)) (ps : List MemPlace),
      (∀ (j : Nat) t v, F.params[j]? = some t → args[j]? = some v → Value.okWide Try.prog W .any base t v) →
      DataW.TrodAll enc Try.prog W 0 (fun _ => true) true F.params.toList args.toList ds ps →
      (∀ x ∈ ps, x.block < W.heap.size) →
      Calls Try.prog f args W fun e W' => e = .returned (.bool true) ∧ Below W.heap.size W W') :
    ReturnsInHanded {} Try.checked os f .any (spec.pre6 enc Try.prog F [] false) (spec.post enc Try.prog F false true false false) := by
  refine returnsInHanded_of_change (C := Try.checked) own started hnoinit hfn witness ?_
  intro W base args ds gs before hval hW _ _
  have hW' := hW
  have hlt : ∀ x ∈ before, x.block < W.heap.size := fun x hx => hW'.lt x hx
  obtain ⟨p, q, hA, hV, rfl, hfz, hnd⟩ := hW
  rw [hv] at hV
  obtain ⟨rfl, rfl⟩ := trodVars_none hV
  have hlen : ds.length = F.params.toList.length := by
    have : ∀ (ts : List TypeId) (vs : List Value) (ds : List (DataW H)) (ps : List MemPlace), DataW.TrodAll enc Try.checked.prog W 0 (fun _ => true) true ts vs ds ps → ds.length = ts.length := by
      intro ts
      induction ts with
      | nil => intro vs ds ps h; obtain ⟨_, rfl, _⟩ := trodAll_nil h; rfl
      | cons t ts ih => intro vs ds ps h; obtain ⟨v, vs', d, ds', p, q, rfl, rfl, rfl, _, h2⟩ := trodAll_cons h; simp [ih _ _ _ h2]
    exact this _ _ _ _ hA
  refine (walk W base args ds p hval hA (fun x hx => hlt x (by simp [hx]))).mono fun e W' ⟨he, hb⟩ => ?_
  subst he
  refine ⟨_, rfl, ds, [], p ++ [], [], p, [], hW', ?_, ?_, ?_, hb.frame _, fun h => by cases h⟩
  · rw [hspec ds hlen, hres]
    exact trodAll_mk1 (shut_bool Try.underlying4 true)
  · rw [hspec ds hlen]
    exact trodAll_below laid hb _ _ _ _ hread hA (fun x hx => hlt x (by simp [hx]))
  · rw [hv, hspec ds hlen]
    rfl
theorem wf_u8 {n : Int} (h : (Lit.int .u8 n).wf = true) : 0 ≤ n ∧ n < 256 := by
  simp [Lit.wf, IntKind.min, IntKind.max, IntKind.signed, IntKind.bits] at h; omega
end Go.Proofs.Ytjokaginolpbeaa

namespace Go.Proofs.Ytjokaginolpbeaa
open Go.Joins Go.ChangeShapes Go.WideShapes Go.RowKit

/-! A struct by value, whatever its fields: its cells, and each field's reading. -/
section
variable {H : Type} {enc : TypeId × Value → H} {P : Program} {w : World} {base : Nat} {spare : Nat → Bool} {held : Bool}
end
end Go.Proofs.Ytjokaginolpbeaa

namespace Go.Proofs.Ytjokaginolpbeaa
open Go.ChangeShapes Go.WideShapes Go.ChangeAt Go.RowKit
theorem cellsU8S : Try.prog.cellsOf 5 = 1 := by kernel_rfl
section
variable {H : Type} {enc : TypeId × Value → H} {w : World} {base : Nat}
set_option maxRecDepth 100000 in
/-- a slice of bytes that came in -/
theorem open_bytes {fuel : Nat} {cs : List Value} {x : DataW H × List MemPlace} (h : DataW.trod enc Try.prog w base (fun _ => true) true fuel 30 cs = some x) :
    ∃ A n c d, cs = [.slice A n c] ∧ BytesV w A n c d := by
  rcases open_ints Try.underlying30 Try.underlying5 cellsU8S h with ⟨hcs, hx⟩ | ⟨a, len, cap, zs, hcs, hb, hl, hm, hz, hx, hcell, hwz⟩
  · exact ⟨none, 0, 0, [], hcs, rfl, Nat.le_refl _, Nat.zero_le _, fun _ => rfl, Cells.nil _ _⟩
  · have hzl : zs.length = cap := by simpa using hz
    have hbytes : bytesOf ((zs.take len).map fun z => UInt8.ofNat z.toNat) = (zs.take len).map (Value.int .u8) := by
      unfold bytesOf
      rw [List.map_map]
      refine List.map_congr_left fun z hz' => ?_
      have := wf_u8 (hwz z (List.mem_of_mem_take hz'))
      simp only [Function.comp, UInt8.toNat_ofNat']
      congr 1
      omega
    refine ⟨some a, len, cap, (zs.take len).map (fun z => UInt8.ofNat z.toNat), hcs, ⟨by rw [List.length_map, List.length_take]; omega, hl, hm, (by intro h; cases h), ?_⟩⟩
    rw [hbytes]
    refine fun _ => ⟨a, rfl, fun j u hu => ?_⟩
    rw [List.getElem?_map] at hu
    obtain ⟨z, hz', rfl⟩ := Option.map_eq_some_iff.1 hu
    rw [List.getElem?_take] at hz'
    split at hz'
    · rename_i hj
      rw [hcell j (by omega)]
      simp [List.getD, hz']
    · cases hz'
set_option maxRecDepth 100000 in
theorem open_bytes1 {b0 : Nat} {v : Value} {d : DataW H} {p : List MemPlace} (hv : Value.okWide Try.prog w .any b0 30 v) (h : DataW.Trod enc Try.prog w base (fun _ => true) true 30 v d p) :
    ∃ A n c l, v = .slice A n c ∧ BytesV w A n c l := by
  obtain ⟨A0, n0, c0, rfl⟩ := okWide_slice Try.underlying30 hv
  obtain ⟨fuel, hf⟩ := h
  obtain ⟨A, n, c, l, e, hV⟩ := open_bytes hf
  simp [Value.cells] at e
  obtain ⟨rfl, rfl, rfl⟩ := e
  exact ⟨A0, n0, c0, l, rfl, hV⟩
end
end Go.Proofs.Ytjokaginolpbeaa

namespace Go.Proofs.Ytjokaginolpbeaa
open Go.ChangeShapes Go.WideShapes Go.ChangeAt Go.RowKit

/-! Rows of words that came in. -/
section
variable {H : Type} {enc : TypeId × Value → H} {w : World} {base : Nat}
end
end Go.Proofs.Ytjokaginolpbeaa

namespace Go.Proofs.Ytjokaginolpbeaa
open Go.ChangeShapes Go.WideShapes Go.ChangeAt Go.RowKit

/-! Disks that came in. -/
section
variable {H : Type} {enc : TypeId × Value → H} {w : World} {base : Nat}
end
end Go.Proofs.Ytjokaginolpbeaa

namespace Go.Proofs.Ytjokaginolpbeaa
open Go.ChangeShapes Go.WideShapes Go.ChangeAt Go.RowKit

/-! What came in is no longer than the form allows. -/
section
variable {H : Type} {enc : TypeId × Value → H} {P : Program}
section
variable {w : World} {base : Nat} {spare : Nat → Bool} {held : Bool}
end
end
section
variable {H : Type} {enc : TypeId × Value → H} {w : World} {base : Nat}
end
end Go.Proofs.Ytjokaginolpbeaa

namespace Go.Proofs.Ytjokaginolpbeaa
open Go.ChangeShapes Go.WideShapes Go.ChangeAt Go.RowKit

/-! Worlds and accesses that came in. -/
/-- a world that came in -/
structure WldP (w : World) (A : Option Addr) (q c : Nat) (ws : List Int) (R : Int) (A0 A1 : Option Addr) (n0 c0 n1 c1 : Nat) (l0 l1 : List St) : Prop where
  words : WordsV w A q c ws
  row0 : RowV w A0 n0 c0 l0
  row1 : RowV w A1 n1 c1 l1
  root : 0 ≤ R ∧ R < 18446744073709551616
  z0 : ∀ s ∈ l0, s.q ≤ 140737488351232
  z1 : ∀ s ∈ l1, s.q ≤ 140737488351232
theorem WldP.ext {w w' : World} {A : Option Addr} {q c : Nat} {ws : List Int} {R : Int} {A0 A1 : Option Addr} {n0 c0 n1 c1 : Nat} {l0 l1 : List St} (h : WldP w A q c ws R A0 A1 n0 c0 n1 c1 l0 l1) (hx : Ext w w') : WldP w' A q c ws R A0 A1 n0 c0 n1 c1 l0 l1 :=
  ⟨h.words.ext hx, h.row0.ext hx, h.row1.ext hx, h.root, h.z0, h.z1⟩
section
variable {H : Type} {enc : TypeId × Value → H} {w : World} {base : Nat}
end
/-- a small world's keys -/
theorem WldP.small {w : World} {T C : Int} {A : Option Addr} {q c : Nat} {ws : List Int} {R : Int} {A0 A1 : Option Addr} {n0 c0 n1 c1 : Nat} {l0 l1 : List St} (h : WldP w A q c ws R A0 A1 n0 c0 n1 c1 l0 l1) (hr : rightW T C q n0 n1 l0 l1 = true) (hs : sumQ l0 + sumQ l1 ≤ 4000) (hq : q ≤ 600) :
    n1 = n0 ∧ (n0 : Int) = T ∧ (1 ≤ T ∧ T ≤ 64 ∧ 0 ≤ C ∧ C ≤ 65536) ∧ (q : Int) = 8 + T + 8 * C ∧ Fit ⟨T, C, ws, R, n0, l0.map St.key, l1.map St.key⟩ 60000 ∧
      WldV w (.agg #[.int .i64 T, .int .i64 C, .slice A q c, .int .u64 R, .slice A0 n0 c0, .slice A1 n1 c1]) ⟨T, C, ws, R, n0, l0.map St.key, l1.map St.key⟩ := by
  simp only [rightW, rightM, rightD, Bool.and_eq_true, decide_eq_true_eq, beq_iff_eq] at hr
  obtain ⟨⟨hm, hqq⟩, ⟨⟨hn1, hn64, hnn⟩, hall⟩, hnT⟩ := hr
  have hmay := mayB_true hm
  subst hnn
  have hk : ∀ (l : List St) (A : Option Addr) (n c : Nat), RowV w A n c l → sumQ l ≤ 4000 → ∀ k ∈ l.map St.key, k.1.length + 60000 ≤ 65536 := fun l A n c hl hs k hk => by
    obtain ⟨s, hs', rfl⟩ := List.mem_map.1 hk
    have h1 := sumQ_mem hs'
    have h2 : s.d.length = s.q := (hl.ok s hs').len
    simp only [St.key]
    omega
  refine ⟨rfl, hnT, hmay, hqq, ⟨by simp only; omega, by simp only; omega, h.root, ?_, hk l0 _ _ _ h.row0 (by omega), hk l1 _ _ _ h.row1 (by omega)⟩, ⟨A, q, c, A0, A1, c0, c1, rfl, h.words, l0, l1, ⟨_, _, _, _, rfl, h.row0, h.row1⟩, rfl, rfl⟩⟩
  have := h.words.len
  simp only
  omega
end Go.Proofs.Ytjokaginolpbeaa

namespace Go.Proofs.Ytjokaginolpbeaa
open Go.RowKit
end Go.Proofs.Ytjokaginolpbeaa

namespace Go.Proofs.Ytjokaginolpbeaa
open Go.RowKit

/-! The example of chapter 10. -/
end Go.Proofs.Ytjokaginolpbeaa

namespace Go.Proofs.Ytjokaginolpbeaa
open Go.ChangeShapes Go.WideShapes Go.ChangeAt Go.RowKit

/-! What the laws of chapter 10 share. -/
theorem doK_word {X : WldK} {me : Int} {A : AccK} {f : Bool} (h0 : 0 ≤ A.kind) (h4 : A.kind ≤ 4) : doK X me A f = { X with ws := wordsK X.ws A } := by
  have h1 : diskKind A.kind = false := by simp [diskKind]; omega
  have h2 : ¬ A.kind = 13 := by omega
  simp [doK, h1, h2]
theorem doR_word {X : WldK} {A : AccK} {f : Bool} (h0 : 0 ≤ A.kind) (h4 : A.kind ≤ 4) : doR X A f = wordsR X.ws A := by
  have h1 : diskKind A.kind = false := by simp [diskKind]; omega
  have h2 : ¬ A.kind = 13 := by omega
  simp [doR, h1, h2]
theorem useM_word {A : AccK} {f : Bool} (h4 : A.kind ≤ 4) : useM A f = 0 := by
  have h1 : diskKind A.kind = false := by simp [diskKind]; omega
  simp [useM, h1]
theorem Fit.word {X : WldK} {m : Nat} {me : Int} {A : AccK} {f : Bool} (h : Fit X m) (h0 : 0 ≤ A.kind) (h4 : A.kind ≤ 4) : Fit (doK X me A f) m := by
  rw [doK_word h0 h4]
  exact ⟨h.pos, h.le, h.root, by simp only [wordsK_length]; exact h.ws, h.k0, h.k1⟩
theorem wordsK_in {ws : List Int} {A : AccK} (h : inW ws.length A = true) : wordsK ws A = ws.set A.cell.toNat (turnX A.kind (ws.getD A.cell.toNat 0) A.a A.b) := by simp [wordsK, h]
theorem wordsK_out {ws : List Int} {A : AccK} (h : inW ws.length A = false) : wordsK ws A = ws := by simp [wordsK, h]
end Go.Proofs.Ytjokaginolpbeaa

namespace Go.Proofs.Ytjokaginolpbeaa
open Go.RowKit

/-! Worlds' words; what Pop and Push do, stepping alone: records come as from a pile. -/
def WldK.at (X : WldK) (i : Int) : Int := X.ws.getD i.toNat 0
def WldK.put (X : WldK) (i a : Int) : WldK := { X with ws := X.ws.set i.toNat a }
theorem put_len (X : WldK) (i a : Int) : (X.put i a).ws.length = X.ws.length := by simp [WldK.put]
theorem at_put_same {X : WldK} {i a : Int} (h : i.toNat < X.ws.length) : (X.put i a).at i = a := by
  unfold WldK.at WldK.put
  simp only [List.getD_eq_getElem?_getD, List.getElem?_set]
  simp [h]
theorem at_put_other {X : WldK} {i j a : Int} (h : j.toNat ≠ i.toNat) : (X.put i a).at j = X.at j := by
  unfold WldK.at WldK.put
  simp only [List.getD_eq_getElem?_getD, List.getElem?_set]
  rw [if_neg (fun e => h e.symm)]
theorem set_self (l : List Int) (i : Nat) : l.set i (l.getD i 0) = l := by
  refine List.ext_getElem? fun j => ?_
  rw [List.getElem?_set]
  by_cases h : i = j
  · subst h
    by_cases hl : i < l.length
    · simp [hl]
    · simp [hl]
  · rw [if_neg h]
theorem put_self (X : WldK) (i : Int) : X.put i (X.at i) = X := by
  show ({ X with ws := X.ws.set i.toNat (X.ws.getD i.toNat 0) } : WldK) = X
  rw [set_self]
theorem in_ask {X : WldK} {x : Ask} (h0 : 0 ≤ x.kind) (h4 : x.kind ≤ 4) (hc : 0 ≤ x.cell) (hl : x.cell < (X.ws.length : Int)) : inW X.ws.length x.K = true := inW_iff.2 ⟨h0, h4, hc, hl⟩
theorem doK_ask {X : WldK} {me : Int} {x : Ask} (h0 : 0 ≤ x.kind) (h4 : x.kind ≤ 4) (hc : 0 ≤ x.cell) (hl : x.cell < (X.ws.length : Int)) :
    doK X me x.K false = X.put x.cell (turnX x.kind (X.at x.cell) x.a x.b) := by
  rw [doK_word h0 h4, wordsK_in (in_ask h0 h4 hc hl)]; rfl
theorem doR_ask {X : WldK} {x : Ask} (h0 : 0 ≤ x.kind) (h4 : x.kind ≤ 4) (hc : 0 ≤ x.cell) (hl : x.cell < (X.ws.length : Int)) :
    (doR X x.K false).N = turnN x.kind (X.at x.cell) x.a := by
  rw [doR_word h0 h4, wordsR, in_ask h0 h4 hc hl]; rfl
section
variable {α : Type} {me : Int} {X X' : WldK} {i a b : Int} {k : Int → PT α} {j : Nat} {r : α}
theorem goes_load (hc : 0 ≤ i) (hl : i < (X.ws.length : Int)) (h : Goes me (k (X.at i)) X j r X') : Goes me (.ask (askL i) k) X (j + 1) r X' := by
  refine Goes.ask ?_
  rw [doR_ask (x := askL i) (by simp [askL]) (by simp [askL]) hc hl, doK_ask (x := askL i) (by simp [askL]) (by simp [askL]) hc hl]
  have e : X.put (askL i).cell (turnX (askL i).kind (X.at (askL i).cell) (askL i).a (askL i).b) = X := by
    have e2 : turnX (askL i).kind (X.at (askL i).cell) (askL i).a (askL i).b = X.at i := by simp [askL, turnX]
    rw [e2]; exact put_self X i
  rw [e]; simpa [askL, turnN] using h
theorem goes_store (hc : 0 ≤ i) (hl : i < (X.ws.length : Int)) (h : Goes me (k 0) (X.put i a) j r X') : Goes me (.ask (askS i a) k) X (j + 1) r X' := by
  refine Goes.ask ?_
  rw [doR_ask (x := askS i a) (by simp [askS]) (by simp [askS]) hc hl, doK_ask (x := askS i a) (by simp [askS]) (by simp [askS]) hc hl]
  simpa [askS, turnN, turnX] using h
theorem goes_swap (hc : 0 ≤ i) (hl : i < (X.ws.length : Int)) (h : Goes me (k (X.at i)) (X.put i a) j r X') : Goes me (.ask (askX i a) k) X (j + 1) r X' := by
  refine Goes.ask ?_
  rw [doR_ask (x := askX i a) (by simp [askX]) (by simp [askX]) hc hl, doK_ask (x := askX i a) (by simp [askX]) (by simp [askX]) hc hl]
  simpa [askX, turnN, turnX] using h
theorem goes_cas (hc : 0 ≤ i) (hl : i < (X.ws.length : Int)) (he : X.at i = a) (h : Goes me (k 1) (X.put i b) j r X') : Goes me (.ask (askC i a b) k) X (j + 1) r X' := by
  refine Goes.ask ?_
  rw [doR_ask (x := askC i a b) (by simp [askC]) (by simp [askC]) hc hl, doK_ask (x := askC i a b) (by simp [askC]) (by simp [askC]) hc hl]
  simpa [askC, turnN, turnX, he] using h
end
/-! Chains of links. -/
def ChainW (X : WldK) (t c : Nat) : List Int → Int → Prop
  | [], r => r = 0
  | x :: l, r => r = x ∧ 1 ≤ x ∧ x ≤ (c : Int) ∧ ChainW X t c l (firstF (X.at (linkI t x)))
theorem link_pos (t : Nat) {r : Int} (h : 1 ≤ r) : 15 + (t : Int) ≤ linkI t r := by unfold linkI; omega
theorem link_in {t c : Nat} {r : Int} (h : 1 ≤ r) (hc : r ≤ (c : Int)) : linkI t r < (memL t c : Int) := by unfold linkI memL; omega
theorem link_inj {t : Nat} {r r' : Int} (h : linkI t r = linkI t r') : r = r' := by unfold linkI at h; omega
theorem link_ne {t : Nat} {r r' : Int} (h1 : 1 ≤ r) (h2 : 1 ≤ r') (h : r ≠ r') : (linkI t r).toNat ≠ (linkI t r').toNat := by
  have := link_pos t h1
  have := link_pos t h2
  intro e
  exact h (link_inj (t := t) (by omega))
theorem ChainW.keep {X X' : WldK} {t c : Nat} : ∀ {l : List Int} {r : Int}, ChainW X t c l r → (∀ x ∈ l, 1 ≤ x → X'.at (linkI t x) = X.at (linkI t x)) → ChainW X' t c l r
  | [], _, h, _ => h
  | x :: l, _, ⟨h1, h2, h3, h4⟩, hk => ⟨h1, h2, h3, by rw [hk x (by simp) h2]; exact h4.keep fun y hy => hk y (by simp [hy])⟩
theorem ChainW.mem {X : WldK} {t c : Nat} : ∀ {l : List Int} {r : Int}, ChainW X t c l r → ∀ x ∈ l, 1 ≤ x ∧ x ≤ (c : Int)
  | [], _, _, x, hx => by simp at hx
  | y :: l, _, ⟨_, h2, h3, h4⟩, x, hx => by
    rcases List.mem_cons.1 hx with rfl | hx
    · exact ⟨h2, h3⟩
    · exact h4.mem x hx
/-- which may be a memory of so many, whose words are words -/
structure Dim (X : WldK) (t c : Nat) : Prop where
  T : X.T = (t : Int)
  C : X.C = (c : Int)
  len : X.ws.length = memL t c
  t1 : 1 ≤ t
  t2 : t ≤ 64
  c2 : c ≤ 65536
  u : ∀ i : Int, U64 (X.at i)
theorem Dim.put {X : WldK} {t c : Nat} {i a : Int} (h : Dim X t c) (ha : U64 a) : Dim (X.put i a) t c :=
  ⟨h.T, h.C, by rw [put_len]; exact h.len, h.t1, h.t2, h.c2, fun j => by
    by_cases e : j.toNat = i.toNat
    · by_cases hl : i.toNat < X.ws.length
      · have : (X.put i a).at j = (X.put i a).at i := by unfold WldK.at; rw [e]
        rw [this, at_put_same hl]; exact ha
      · have : X.put i a = X := by
          unfold WldK.put; rw [List.set_eq_of_length_le (by omega)]
        rw [this]; exact h.u j
    · rw [at_put_other e]; exact h.u j⟩
theorem first_u64 {n : Int} (h : U64 n) : U64 (firstF n) := by have := h.1; have := h.2; unfold firstF U64; omega
theorem topN_first {r w : Int} (h0 : 0 ≤ r) (h1 : r < 1048576) : firstF (topN r w) = r := by
  unfold topN
  rw [top_ref ⟨h0, h1⟩ (by unfold U64; omega)]; unfold firstF; omega
theorem topN_tag {r w : Int} (h0 : 0 ≤ r) (h1 : r < 1048576) (hw : U64 w) : tagF (topN r w) = (tagF w + 1) % 17592186044416 := by
  have := hw.1; have := hw.2
  unfold topN
  rw [top_ref ⟨h0, h1⟩ (by unfold U64; omega)]; unfold tagF; omega
theorem topN_u (r w : Int) : U64 (topN r w) := top_u64 _ _
/-- the free records, the top first -/
structure PoolK (X : WldK) (t c : Nat) (pile : List Int) : Prop where
  dim : Dim X t c
  chain : ChainW X t c pile (firstF (X.at 1))
  nodup : pile.Nodup
theorem Dim.one {X : WldK} {t c : Nat} (h : Dim X t c) : (1 : Int) < (X.ws.length : Int) := by rw [h.len]; unfold memL; omega
def popX (X : WldK) (t : Nat) : WldK := X.put 1 (topN (firstF (X.at (linkI t (firstF (X.at 1))))) (X.at 1))
def pushX (X : WldK) (t : Nat) (r : Int) : WldK := (X.put (linkI t r) (firstF (X.at 1))).put 1 (topN r (X.at 1))
theorem push_goes {X : WldK} {t c : Nat} (h : Dim X t c) {x : Int} (h1 : 1 ≤ x) (h2 : x ≤ (c : Int)) (me : Int) (f : Nat) : Goes me (pushT t x (f + 1)) X 3 0 (pushX X t x) := by
  have hl := link_in (t := t) h1 h2
  have hp := link_pos t h1
  refine goes_load (by omega) h.one ?_
  refine goes_store (by omega) (by rw [h.len]; omega) ?_
  refine goes_cas (by omega) (by rw [put_len]; exact h.one) (at_put_other (by omega)) ?_
  rw [if_pos rfl]
  exact Goes.ret _ _
theorem push_pool {X : WldK} {t c : Nat} {pile : List Int} (h : PoolK X t c pile) {x : Int} (h1 : 1 ≤ x) (h2 : x ≤ (c : Int)) (hx : x ∉ pile) : PoolK (pushX X t x) t c (x :: pile) ∧ tagF ((pushX X t x).at 1) = (tagF (X.at 1) + 1) % 17592186044416 := by
  have hl := link_in (t := t) h1 h2
  have hp := link_pos t h1
  have hc := h.dim.c2
  have hlt : (1 : Int).toNat < (X.put (linkI t x) (firstF (X.at 1))).ws.length := by rw [put_len]; have := h.dim.one; omega
  have hle : (linkI t x).toNat < X.ws.length := by rw [h.dim.len]; omega
  have hu := h.dim.u 1
  have hff : firstF (firstF (X.at 1)) = firstF (X.at 1) := by unfold firstF; omega
  unfold pushX
  refine ⟨⟨(h.dim.put (first_u64 hu)).put (topN_u _ _), ?_, List.nodup_cons.2 ⟨hx, h.nodup⟩⟩, ?_⟩
  · rw [at_put_same hlt, topN_first (by omega) (by omega)]
    refine ⟨rfl, h1, h2, ?_⟩
    rw [at_put_other (by omega), at_put_same hle, hff]
    refine h.chain.keep fun y hy hy1 => ?_
    have hyp := link_pos t hy1
    rw [at_put_other (by omega), at_put_other (link_ne hy1 h1 (fun e => hx (e ▸ hy)))]
  · rw [at_put_same hlt, topN_tag (by omega) (by omega) hu]
/-! A new memory. -/
def upFrom : Nat → Nat → List Int
  | _, 0 => []
  | r, n + 1 => (r : Int) :: upFrom (r + 1) n
theorem upFrom_mem {x : Int} : ∀ {n r : Nat}, x ∈ upFrom r n → (r : Int) ≤ x ∧ x < (r : Int) + n
  | 0, _, h => by simp [upFrom] at h
  | n + 1, r, h => by
    rcases List.mem_cons.1 h with rfl | h
    · omega
    · have := upFrom_mem h; omega
theorem upFrom_nodup : ∀ (n r : Nat), (upFrom r n).Nodup
  | 0, _ => List.nodup_nil
  | n + 1, r => List.nodup_cons.2 ⟨fun h => by have := upFrom_mem h; omega, upFrom_nodup n (r + 1)⟩
theorem new_at (t c : Nat) (i : Nat) (h : i < memL t c) : (newW t c).at (i : Int) = newF t c c i := by
  unfold WldK.at newW
  simp [List.getD_eq_getElem?_getD, List.getElem?_map, List.getElem?_range h]
theorem new_at_out (t c : Nat) (i : Int) (h : memL t c ≤ i.toNat) : (newW t c).at i = 0 := by
  unfold WldK.at newW
  have e : (List.range (memL t c))[i.toNat]? = none := List.getElem?_eq_none (by simpa using h)
  simp [List.getD_eq_getElem?_getD, List.getElem?_map, e]
theorem new_dim {t c : Nat} (t1 : 1 ≤ t) (t2 : t ≤ 64) (hc : c ≤ 65536) : Dim (newW t c) t c :=
  ⟨rfl, rfl, by simp [newW], t1, t2, hc, fun i => by
    rcases Nat.lt_or_ge i.toNat (memL t c) with h | h
    · have e : (newW t c).at i = (newW t c).at (i.toNat : Int) := by unfold WldK.at; rw [Int.toNat_natCast]
      rw [e, new_at t c _ h]
      have := newF_u64 (r := c) h hc
      unfold U64; omega
    · rw [new_at_out t c i h]; exact u64_zero⟩
theorem link_nat (t : Nat) {r : Nat} (h : 1 ≤ r) : linkI t r = ((linkAt t r : Nat) : Int) := by unfold linkI linkAt; omega
theorem new_chain {t c : Nat} (hc : c ≤ 65536) : ∀ (n r : Nat), 1 ≤ r → r + n = c + 1 → ChainW (newW t c) t c (upFrom r n) (if n = 0 then 0 else (r : Int))
  | 0, r, _, _ => rfl
  | n + 1, r, h1, h2 => by
    refine ⟨by simp, by omega, by omega, ?_⟩
    rw [link_nat t h1, new_at t c _ (linkAt_lt h1 (by omega))]
    have ih := new_chain (t := t) hc n (r + 1) (by omega) (by omega)
    rcases n with _ | n
    · obtain rfl : r = c := by omega
      rw [newF_last h1]; exact ih
    · rw [newF_link h1 (by omega)]
      have e : firstF ((r + 1 : Nat) : Int) = ((r + 1 : Nat) : Int) := by unfold firstF; omega
      rw [e]; simpa using ih
theorem new_pool {t c : Nat} (t1 : 1 ≤ t) (t2 : t ≤ 64) (hc : c ≤ 65536) : PoolK (newW t c) t c (upFrom 1 c) := by
  refine ⟨new_dim t1 t2 hc, ?_, upFrom_nodup _ _⟩
  have e : (newW t c).at 1 = ((min c 1 : Nat) : Int) := by
    have := new_at t c 1 (by unfold memL; omega)
    rw [newF_head] at this; exact this
  have h := new_chain (t := t) hc c 1 (by omega) (by omega)
  rw [e]
  have e2 : firstF ((min c 1 : Nat) : Int) = if c = 0 then 0 else ((1 : Nat) : Int) := by
    unfold firstF; split <;> omega
  rw [e2]; exact h
/-! Operations that step alone. -/
end Go.Proofs.Ytjokaginolpbeaa

namespace Go.Proofs.Ytjokaginolpbeaa
open Go.RowKit

/-! play.Load, play.Store, play.Cas, play.Add, play.Swap: of any function value of two captured places. -/
set_option maxRecDepth 100000 in
theorem pload_next (F : FuncId) (c0 c1 : Value) (i : Int) (N : Int) (Q : World → Prop) (w : World)
    (hcall : ∀ (args : Array Value) (w : World), (callFunc F args).run Try.prog w = .ok (.enter F args) w)
    (h : Calls Try.prog F #[.agg #[.int .i64 0, .int .i64 i, .int .u64 0, .int .u64 0, .slice none 0 0, .slice none 0 0], c0, c1] w fun e w' => ∃ (B : Option Addr) (q c : Nat) (f : Bool), e = .returned (.agg #[.int .u64 N, .slice B q c, .bool f]) ∧ Q w') :
    Calls Try.prog 100 #[.func (.func F) #[] #[c0, c1], .int .i64 i] w fun e w' => e = .returned (.int .u64 N) ∧ Q w' := by
  have hb : ∀ (W : World) (x y : Int), (Instr.build 33 #[(0, .int .i64 x), (1, .int .i64 y)]).run Try.prog W = .ok (.agg #[.int .i64 x, .int .i64 y, .int .u64 0, .int .u64 0, .slice none 0 0, .slice none 0 0]) W := fun _ _ _ => by kernel_rfl
  have hfl : ∀ (W : World) (N : Int) (B : Option Addr) (q c : Nat) (f : Bool), (Instr.field 59 (.agg #[.int .u64 N, .slice B q c, .bool f]) 0).run Try.prog W = .ok (.int .u64 N) W := fun _ _ _ _ _ _ => by kernel_rfl
  go_enter Try.func100, Try.ntmps100
  go_wp2_with fail
  refine h.mono ?_
  rintro e w1 ⟨B, q, c, f, rfl, hq⟩
  go_wp2
  go_ret
  exact ⟨rfl, hq⟩
set_option maxRecDepth 100000 in
theorem pload_stop (F : FuncId) (c0 c1 : Value) (i : Int) (ch : List PanicEntry) (Q : World → Prop) (w : World)
    (hcall : ∀ (args : Array Value) (w : World), (callFunc F args).run Try.prog w = .ok (.enter F args) w)
    (h : Calls Try.prog F #[.agg #[.int .i64 0, .int .i64 i, .int .u64 0, .int .u64 0, .slice none 0 0, .slice none 0 0], c0, c1] w fun e w' => e = .panicked ch ∧ Q w') :
    Calls Try.prog 100 #[.func (.func F) #[] #[c0, c1], .int .i64 i] w fun e w' => e = .panicked ch ∧ Q w' := by
  have hb : ∀ (W : World) (x y : Int), (Instr.build 33 #[(0, .int .i64 x), (1, .int .i64 y)]).run Try.prog W = .ok (.agg #[.int .i64 x, .int .i64 y, .int .u64 0, .int .u64 0, .slice none 0 0, .slice none 0 0]) W := fun _ _ _ => by kernel_rfl
  have hfl : ∀ (W : World) (N : Int) (B : Option Addr) (q c : Nat) (f : Bool), (Instr.field 59 (.agg #[.int .u64 N, .slice B q c, .bool f]) 0).run Try.prog W = .ok (.int .u64 N) W := fun _ _ _ _ _ _ => by kernel_rfl
  go_enter Try.func100, Try.ntmps100
  go_wp2_with fail
  refine h.mono ?_
  rintro e w1 ⟨rfl, hq⟩
  exact ⟨rfl, rfl, hq⟩
set_option maxRecDepth 100000 in
theorem pstore_next (F : FuncId) (c0 c1 : Value) (i a : Int) (N : Int) (Q : World → Prop) (w : World)
    (hcall : ∀ (args : Array Value) (w : World), (callFunc F args).run Try.prog w = .ok (.enter F args) w)
    (h : Calls Try.prog F #[.agg #[.int .i64 1, .int .i64 i, .int .u64 a, .int .u64 0, .slice none 0 0, .slice none 0 0], c0, c1] w fun e w' => ∃ (B : Option Addr) (q c : Nat) (f : Bool), e = .returned (.agg #[.int .u64 N, .slice B q c, .bool f]) ∧ Q w') :
    Calls Try.prog 99 #[.func (.func F) #[] #[c0, c1], .int .i64 i, .int .u64 a] w fun e w' => e = .returned (.tuple #[]) ∧ Q w' := by
  have hb : ∀ (W : World) (x y z : Int), (Instr.build 33 #[(0, .int .i64 x), (1, .int .i64 y), (2, .int .u64 z)]).run Try.prog W = .ok (.agg #[.int .i64 x, .int .i64 y, .int .u64 z, .int .u64 0, .slice none 0 0, .slice none 0 0]) W := fun _ _ _ _ => by kernel_rfl
  have hfl : ∀ (W : World) (N : Int) (B : Option Addr) (q c : Nat) (f : Bool), (Instr.field 59 (.agg #[.int .u64 N, .slice B q c, .bool f]) 0).run Try.prog W = .ok (.int .u64 N) W := fun _ _ _ _ _ _ => by kernel_rfl
  go_enter Try.func99, Try.ntmps99
  go_wp2_with fail
  refine h.mono ?_
  rintro e w1 ⟨B, q, c, f, rfl, hq⟩
  go_wp2
  refine bodyPost_end (v := .tuple #[]) (by simp [results, Try.results99, go_sem]) rfl ⟨rfl, hq⟩
set_option maxRecDepth 100000 in
theorem pstore_stop (F : FuncId) (c0 c1 : Value) (i a : Int) (ch : List PanicEntry) (Q : World → Prop) (w : World)
    (hcall : ∀ (args : Array Value) (w : World), (callFunc F args).run Try.prog w = .ok (.enter F args) w)
    (h : Calls Try.prog F #[.agg #[.int .i64 1, .int .i64 i, .int .u64 a, .int .u64 0, .slice none 0 0, .slice none 0 0], c0, c1] w fun e w' => e = .panicked ch ∧ Q w') :
    Calls Try.prog 99 #[.func (.func F) #[] #[c0, c1], .int .i64 i, .int .u64 a] w fun e w' => e = .panicked ch ∧ Q w' := by
  have hb : ∀ (W : World) (x y z : Int), (Instr.build 33 #[(0, .int .i64 x), (1, .int .i64 y), (2, .int .u64 z)]).run Try.prog W = .ok (.agg #[.int .i64 x, .int .i64 y, .int .u64 z, .int .u64 0, .slice none 0 0, .slice none 0 0]) W := fun _ _ _ _ => by kernel_rfl
  have hfl : ∀ (W : World) (N : Int) (B : Option Addr) (q c : Nat) (f : Bool), (Instr.field 59 (.agg #[.int .u64 N, .slice B q c, .bool f]) 0).run Try.prog W = .ok (.int .u64 N) W := fun _ _ _ _ _ _ => by kernel_rfl
  go_enter Try.func99, Try.ntmps99
  go_wp2_with fail
  refine h.mono ?_
  rintro e w1 ⟨rfl, hq⟩
  exact ⟨rfl, rfl, hq⟩
set_option maxRecDepth 100000 in
theorem pcas_next (F : FuncId) (c0 c1 : Value) (i a b : Int) (N : Int) (Q : World → Prop) (w : World)
    (hcall : ∀ (args : Array Value) (w : World), (callFunc F args).run Try.prog w = .ok (.enter F args) w)
    (h : Calls Try.prog F #[.agg #[.int .i64 2, .int .i64 i, .int .u64 a, .int .u64 b, .slice none 0 0, .slice none 0 0], c0, c1] w fun e w' => ∃ (B : Option Addr) (q c : Nat) (f : Bool), e = .returned (.agg #[.int .u64 N, .slice B q c, .bool f]) ∧ Q w') :
    Calls Try.prog 101 #[.func (.func F) #[] #[c0, c1], .int .i64 i, .int .u64 a, .int .u64 b] w fun e w' => e = .returned (.bool (N == 1)) ∧ Q w' := by
  have hb : ∀ (W : World) (x y z u : Int), (Instr.build 33 #[(0, .int .i64 x), (1, .int .i64 y), (2, .int .u64 z), (3, .int .u64 u)]).run Try.prog W = .ok (.agg #[.int .i64 x, .int .i64 y, .int .u64 z, .int .u64 u, .slice none 0 0, .slice none 0 0]) W := fun _ _ _ _ _ => by kernel_rfl
  have hfl : ∀ (W : World) (N : Int) (B : Option Addr) (q c : Nat) (f : Bool), (Instr.field 59 (.agg #[.int .u64 N, .slice B q c, .bool f]) 0).run Try.prog W = .ok (.int .u64 N) W := fun _ _ _ _ _ _ => by kernel_rfl
  go_enter Try.func101, Try.ntmps101
  go_wp2_with fail
  refine h.mono ?_
  rintro e w1 ⟨B, q, c, f, rfl, hq⟩
  go_wp2
  go_ret
  exact ⟨rfl, hq⟩
set_option maxRecDepth 100000 in
theorem pcas_stop (F : FuncId) (c0 c1 : Value) (i a b : Int) (ch : List PanicEntry) (Q : World → Prop) (w : World)
    (hcall : ∀ (args : Array Value) (w : World), (callFunc F args).run Try.prog w = .ok (.enter F args) w)
    (h : Calls Try.prog F #[.agg #[.int .i64 2, .int .i64 i, .int .u64 a, .int .u64 b, .slice none 0 0, .slice none 0 0], c0, c1] w fun e w' => e = .panicked ch ∧ Q w') :
    Calls Try.prog 101 #[.func (.func F) #[] #[c0, c1], .int .i64 i, .int .u64 a, .int .u64 b] w fun e w' => e = .panicked ch ∧ Q w' := by
  have hb : ∀ (W : World) (x y z u : Int), (Instr.build 33 #[(0, .int .i64 x), (1, .int .i64 y), (2, .int .u64 z), (3, .int .u64 u)]).run Try.prog W = .ok (.agg #[.int .i64 x, .int .i64 y, .int .u64 z, .int .u64 u, .slice none 0 0, .slice none 0 0]) W := fun _ _ _ _ _ => by kernel_rfl
  have hfl : ∀ (W : World) (N : Int) (B : Option Addr) (q c : Nat) (f : Bool), (Instr.field 59 (.agg #[.int .u64 N, .slice B q c, .bool f]) 0).run Try.prog W = .ok (.int .u64 N) W := fun _ _ _ _ _ _ => by kernel_rfl
  go_enter Try.func101, Try.ntmps101
  go_wp2_with fail
  refine h.mono ?_
  rintro e w1 ⟨rfl, hq⟩
  exact ⟨rfl, rfl, hq⟩
set_option maxRecDepth 100000 in
theorem pswap_next (F : FuncId) (c0 c1 : Value) (i a : Int) (N : Int) (Q : World → Prop) (w : World)
    (hcall : ∀ (args : Array Value) (w : World), (callFunc F args).run Try.prog w = .ok (.enter F args) w)
    (h : Calls Try.prog F #[.agg #[.int .i64 4, .int .i64 i, .int .u64 a, .int .u64 0, .slice none 0 0, .slice none 0 0], c0, c1] w fun e w' => ∃ (B : Option Addr) (q c : Nat) (f : Bool), e = .returned (.agg #[.int .u64 N, .slice B q c, .bool f]) ∧ Q w') :
    Calls Try.prog 103 #[.func (.func F) #[] #[c0, c1], .int .i64 i, .int .u64 a] w fun e w' => e = .returned (.int .u64 N) ∧ Q w' := by
  have hb : ∀ (W : World) (x y z : Int), (Instr.build 33 #[(0, .int .i64 x), (1, .int .i64 y), (2, .int .u64 z)]).run Try.prog W = .ok (.agg #[.int .i64 x, .int .i64 y, .int .u64 z, .int .u64 0, .slice none 0 0, .slice none 0 0]) W := fun _ _ _ _ => by kernel_rfl
  have hfl : ∀ (W : World) (N : Int) (B : Option Addr) (q c : Nat) (f : Bool), (Instr.field 59 (.agg #[.int .u64 N, .slice B q c, .bool f]) 0).run Try.prog W = .ok (.int .u64 N) W := fun _ _ _ _ _ _ => by kernel_rfl
  go_enter Try.func103, Try.ntmps103
  go_wp2_with fail
  refine h.mono ?_
  rintro e w1 ⟨B, q, c, f, rfl, hq⟩
  go_wp2
  go_ret
  exact ⟨rfl, hq⟩
set_option maxRecDepth 100000 in
theorem pswap_stop (F : FuncId) (c0 c1 : Value) (i a : Int) (ch : List PanicEntry) (Q : World → Prop) (w : World)
    (hcall : ∀ (args : Array Value) (w : World), (callFunc F args).run Try.prog w = .ok (.enter F args) w)
    (h : Calls Try.prog F #[.agg #[.int .i64 4, .int .i64 i, .int .u64 a, .int .u64 0, .slice none 0 0, .slice none 0 0], c0, c1] w fun e w' => e = .panicked ch ∧ Q w') :
    Calls Try.prog 103 #[.func (.func F) #[] #[c0, c1], .int .i64 i, .int .u64 a] w fun e w' => e = .panicked ch ∧ Q w' := by
  have hb : ∀ (W : World) (x y z : Int), (Instr.build 33 #[(0, .int .i64 x), (1, .int .i64 y), (2, .int .u64 z)]).run Try.prog W = .ok (.agg #[.int .i64 x, .int .i64 y, .int .u64 z, .int .u64 0, .slice none 0 0, .slice none 0 0]) W := fun _ _ _ _ => by kernel_rfl
  have hfl : ∀ (W : World) (N : Int) (B : Option Addr) (q c : Nat) (f : Bool), (Instr.field 59 (.agg #[.int .u64 N, .slice B q c, .bool f]) 0).run Try.prog W = .ok (.int .u64 N) W := fun _ _ _ _ _ _ => by kernel_rfl
  go_enter Try.func103, Try.ntmps103
  go_wp2_with fail
  refine h.mono ?_
  rintro e w1 ⟨rfl, hq⟩
  exact ⟨rfl, rfl, hq⟩
end Go.Proofs.Ytjokaginolpbeaa

namespace Go.Proofs.Ytjokaginolpbeaa
open Go.RowKit

/-! play.Load, .. of what a program is handed by play.Run. -/
end Go.Proofs.Ytjokaginolpbeaa

namespace Go.Proofs.Ytjokaginolpbeaa
open Go.RowKit

/-! What the words are, as numbers. -/
theorem first_any (n : Int) (h : U64 n) (w : World) :
    Calls Try.prog 51 #[.int .u64 n] w fun e w' => e = .returned (.int .i64 (firstF n)) ∧ w = w' := by
  go_enter Try.func51, Try.ntmps51
  go_wp2
  go_ret
  refine ⟨ret_int ?_, rfl⟩
  show wrap64 (bits .and .u64 n 1048575) = _
  rw [and_20 _ h, wrap64_small _ (by omega) (by omega)]; rfl
theorem tag_any (n : Int) (w : World) :
    Calls Try.prog 53 #[.int .u64 n] w fun e w' => e = .returned (.int .u64 (tagF n)) ∧ w = w' := by
  go_enter Try.func53, Try.ntmps53
  go_wp2
  go_ret
  exact ⟨rfl, rfl⟩
end Go.Proofs.Ytjokaginolpbeaa

namespace Go.Proofs.Ytjokaginolpbeaa
open Go.RowKit

/-! pool.Pop, pool.Push of what a program is handed. -/
def doneAt (gA : Nat) (w : World) : Nat := match w.cell? ⟨gA, 0, none⟩ with | some (.int _ i) => i.toNat | _ => 0
theorem doneAt_of {gA : Nat} {w : World} {i : Nat} {T : TypeId} {fr : Nat × Nat} (h : w.heap[gA]? = some (.cells #[.int .i64 (i : Int)] T fr)) : doneAt gA w = i := by
  have h1 : w.cell? ⟨gA, 0, none⟩ = some (.int .i64 (i : Int)) := by simp [World.cell?, h]
  unfold doneAt; rw [h1]; simp
theorem DoAt.done {m : Nat} {w : World} {gA gL : Nat} {rs : List Res} (h : DoAt m w gA gL rs) : doneAt gA w + rs.length ≤ 65536 := by
  obtain ⟨i, n, c, A, fr, h1, h2, h3, h4, h5, h6⟩ := h
  rw [doneAt_of h1]; omega
theorem firstF_rng {n : Int} (h : U64 n) : 0 ≤ firstF n ∧ firstF n < 1048576 := by unfold firstF; omega
theorem topN_rng (r w : Int) : U64 (topN r w) := top_u64 _ _
theorem fieldB_any (t r : Int) (h1 : 0 ≤ t) (h2 : t ≤ 64) (h3 : 0 ≤ r) (h4 : r ≤ 1048576) (w : World) :
    Calls Try.prog 65 #[.int .i64 t, .int .i64 r, .int .i64 7] w fun e w' => e = .returned (.int .i64 (linkI t r)) ∧ w = w' :=
  (field_any t r 7 (by omega) (by omega) (by omega) (by omega) (by omega) (by omega) w).mono fun _ _ ⟨he, hw⟩ => ⟨by rw [he]; rfl, hw⟩
def GoodR (rs : List Res) : Prop := ∀ r ∈ rs, U64 r.n
theorem GoodR.drop {rs : List Res} (h : GoodR rs) (k : Nat) : GoodR (rs.drop k) := fun r hr => h r (List.mem_of_mem_drop hr)
end Go.Proofs.Ytjokaginolpbeaa

namespace Go.Proofs.Ytjokaginolpbeaa
open Go.RowKit

/-! What 'alone' needs of worlds and logs. -/
theorem boxes4n (w : World) (o0 o1 o2 o3 : Obj) :
    Ext w ((((w.alloc o0).alloc o1).alloc o2).alloc o3) ∧ ((((w.alloc o0).alloc o1).alloc o2).alloc o3).heap[w.heap.size]? = some o0 ∧ ((((w.alloc o0).alloc o1).alloc o2).alloc o3).heap[w.heap.size + 1]? = some o1 ∧
      ((((w.alloc o0).alloc o1).alloc o2).alloc o3).heap[w.heap.size + 1 + 1]? = some o2 ∧ ((((w.alloc o0).alloc o1).alloc o2).alloc o3).heap[w.heap.size + 1 + 1 + 1]? = some o3 := by
  obtain ⟨h, h0, h1⟩ := two_boxes7 w o0 o1
  obtain ⟨k, k0, k1⟩ := two_boxes7 ((w.alloc o0).alloc o1) o2 o3
  have e : ((w.alloc o0).alloc o1).heap.size = w.heap.size + 1 + 1 := by simp
  rw [e] at k0 k1
  exact ⟨h.trans k, heap_ext h0 k, heap_ext h1 k, k0, k1⟩
def WOk (X : WldK) : Prop := Fit X 0 ∧ (∀ i : Int, U64 (X.at i)) ∧ 2 ≤ X.ws.length
theorem GoodR.u64s {rs : List Res} (h : GoodR rs) : U64s (rs.map Res.n) := fun n hn => by
  obtain ⟨r, hr, rfl⟩ := List.mem_map.1 hn
  exact h r hr
theorem GoodR.snoc {rs : List Res} {r : Res} (h : GoodR rs) (hr : U64 r.n) : GoodR (rs ++ [r]) := fun q hq => by
  rcases List.mem_append.1 hq with hq | hq
  · exact h q hq
  · rw [List.mem_singleton.1 hq]; exact hr
theorem put_u {X : WldK} {i a : Int} (h : ∀ j : Int, U64 (X.at j)) (ha : U64 a) : ∀ j : Int, U64 ((X.put i a).at j) := fun j => by
  by_cases e : j.toNat = i.toNat
  · by_cases hl : i.toNat < X.ws.length
    · have : (X.put i a).at j = (X.put i a).at i := by unfold WldK.at; rw [e]
      rw [this, at_put_same hl]; exact ha
    · have : X.put i a = X := by unfold WldK.put; rw [List.set_eq_of_length_le (by omega)]
      rw [this]; exact h j
  · rw [at_put_other e]; exact h j
theorem turnX_u {k o a b : Int} (ho : U64 o) (ha : U64 a) (hb : U64 b) : U64 (turnX k o a b) := by
  unfold turnX
  repeat' split
  · exact ha
  · exact hb
  · exact ho
  · unfold U64; omega
  · exact ha
  · exact ho
theorem turnN_u {k o a : Int} (ho : U64 o) : U64 (turnN k o a) := by
  unfold turnN
  repeat' split
  · exact ho
  · unfold U64; omega
  · unfold U64; omega
  · exact ho
  · exact ho
  · exact u64_zero
theorem WOk.step {X : WldK} (h : WOk X) (me : Int) {x : Ask} (hx : x.Ok) : WOk (doK X me x.K false) ∧ U64 (doR X x.K false).N ∧ (doK X me x.K false).T = X.T ∧ (doK X me x.K false).C = X.C := by
  have hw : Fit (doK X me x.K false) 0 := h.1.word (A := x.K) hx.1 hx.2.1
  rw [doK_word (A := x.K) hx.1 hx.2.1] at hw ⊢
  rw [doR_word (A := x.K) hx.1 hx.2.1]
  refine ⟨⟨hw, ?_, by simp only; rw [wordsK_length]; exact h.2.2⟩, ?_, rfl, rfl⟩
  · by_cases hin : inW X.ws.length x.K = true
    · have e : ({ X with ws := wordsK X.ws x.K } : WldK) = X.put x.cell (turnX x.kind (X.at x.cell) x.a x.b) := by
        rw [wordsK_in hin]; rfl
      rw [e]
      exact put_u h.2.1 (turnX_u (h.2.1 _) hx.2.2.1 hx.2.2.2)
    · rw [wordsK_out (by simpa using hin)]; exact h.2.1
  · by_cases hin : inW X.ws.length x.K = true
    · rw [wordsR, hin]; exact turnN_u (h.2.1 x.cell)
    · rw [wordsR]; simp only [hin, if_false, Bool.false_eq_true]; exact u64_zero
end Go.Proofs.Ytjokaginolpbeaa

namespace Go.Proofs.Ytjokaginolpbeaa
open Go.RowKit

theorem ExtB.setAll {gw g : Nat} {w w' : World} (h : ExtB gw w w') (vs : List Value) (hg : g = gw ∨ w.heap.size ≤ g) : ∀ i, ExtB gw w (setAll g i vs w') := by
  induction vs generalizing w' with
  | nil => exact fun _ => h
  | cons u vs ih =>
    intro i
    refine ih ?_ (i + 1)
    rcases hg with rfl | hg
    · exact h.set i u
    · exact ⟨h.os, h.tape, h.output, by simpa [World.setCell] using h.size, fun k hk hne => (Below.heap_setCell _ _ _ _ (by simp; omega)).trans (h.block k hk hne)⟩
end Go.Proofs.Ytjokaginolpbeaa

namespace Go.Proofs.Ytjokaginolpbeaa
open Go.RowKit

set_option maxRecDepth 100000 in
set_option maxHeartbeats 8000000 in
/-- wealdlaw13.alone, of whatever Next answers -/
theorem ealone_any (P : List Int → NextE) (X : WldK) (wv : Value) (me k u v d : Int) (most : Nat) (hm : most ≤ 900) (w : World) (hV : WldV w wv X) (hX : WOk X)
    (hN : ∀ (T C : Int) (B : Option Addr) (n kc : Nat) (rs : List Res) (w' : World), T = X.T → C = X.C → rs.length ≤ most → LogV w' B n kc rs → GoodR rs → Calls Try.prog 17 #[.int .i64 T, .int .i64 C, .int .i64 me, .agg #[.int .i64 k, .int .i64 u, .int .i64 v, .int .u64 d], .slice B n kc] w' fun e w'' => e = (P (rs.map Res.n)).fin ∧ Ext w' w'')
    (hP : ∀ (ns : List Int) (x : Acc), U64s ns → P ns = .stop x → ∃ a : Ask, x = a.acc ∧ a.Ok) :
    Calls Try.prog 22 #[wv, .int .i64 me, .agg #[.int .i64 k, .int .i64 u, .int .i64 v, .int .u64 d], .int .i64 most] w fun e w' => ∃ v', e = .returned (.tuple #[v', .agg (aloneN P me (most + 1) X []).2.1.cells, .bool (aloneN P me (most + 1) X []).2.2]) ∧ WldV w' v' (aloneN P me (most + 1) X []).1 ∧ Ext w w' := by
  obtain ⟨E, hE0⟩ : ∃ E, aloneN P me (most + 1) X [] = E := ⟨_, rfl⟩
  have HE := Lib.hid hE0
  rw [hE0]
  clear hE0
  obtain ⟨vA, vq, vc, vB, vb, vC, vd, rfl⟩ := hV.form6
  obtain ⟨i0, hi0, hz0, hz1, hz2⟩ := info_parts info_res
  have hr1 : ∀ (W : World) (a b c : Value), (Instr.buildSlice 25 1 #[(0, .agg #[a, b, c])]).run Try.prog W = .ok (.slice (some ⟨W.heap.size, 0, none⟩) 1 1) (W.alloc (.cells #[a, b, c] 59)) := fun _ _ _ _ => by kernel_rfl
  have hb2 : ∀ (W : World), (Instr.build 37 #[]).run Try.prog W = .ok (.agg #[.int .i64 0, .bool false, .int .i64 0, .int .u64 0, .slice none 0 0]) W := fun _ => by kernel_rfl
  go_enter Try.func22, Try.ntmps22
  go_upto_region 1 with (fail)
  obtain ⟨hWr, hbx0, hp, h8, h9⟩ := boxes4n w (.cells #[.int .i64 X.T, .int .i64 X.C, .slice vA vq vc, .int .u64 X.R, .slice vB X.n vb, .slice vC X.n vd] 51) (.cells #[.int .i64 k, .int .i64 u, .int .i64 v, .int .u64 d] 24) (.cells #[.int .i64 0, .int .i64 0, .slice none 0 0, .int .u64 0, .slice none 0 0, .slice none 0 0] 51) (.cells #[.int .i64 0, .bool false, .int .i64 0, .int .u64 0, .slice none 0 0] 37)
  generalize (((w.alloc (.cells #[.int .i64 X.T, .int .i64 X.C, .slice vA vq vc, .int .u64 X.R, .slice vB X.n vb, .slice vC X.n vd] 51)).alloc (.cells #[.int .i64 k, .int .i64 u, .int .i64 v, .int .u64 d] 24)).alloc (.cells #[.int .i64 0, .int .i64 0, .slice none 0 0, .int .u64 0, .slice none 0 0, .slice none 0 0] 51)).alloc (.cells #[.int .i64 0, .bool false, .int .i64 0, .int .u64 0, .slice none 0 0] 37) = W0 at *
  have hbx : BoxW W0 w.heap.size X := ⟨_, hbx0, hV.ext hWr⟩
  have hs0 : w.heap.size + 1 + 1 + 1 < W0.heap.size := (Array.getElem?_eq_some_iff.1 h9).1
  clear hbx0 hV
  obtain ⟨gp, hgp⟩ : ∃ gp, w.heap.size + 1 = gp := ⟨_, rfl⟩
  rw [hgp] at hp h8 h9 hs0
  obtain ⟨g8, hg8⟩ : ∃ g8, gp + 1 = g8 := ⟨_, rfl⟩
  simp only [hgp]
  rw [hg8] at h8 h9 hs0
  simp only [hg8]
  obtain ⟨g9, hg9⟩ : ∃ g9, g8 + 1 = g9 := ⟨_, rfl⟩
  rw [hg9] at h9 hs0
  simp only [hg9]
  obtain ⟨gs, hgs⟩ : ∃ gs, gs = W0.heap.size := ⟨_, rfl⟩
  rw [← hgs] at hs0
  have hgr : gs ≤ W0.heap.size := Nat.le_of_eq hgs
  have l1 : w.heap.size < gp := by omega
  have l2 : gp < g8 := by omega
  have l3 : g8 < g9 := by omega
  clear hgp hg8 hg9 hgs
  have hle0 : w.heap.size ≤ w.heap.size := Nat.le_refl _
  generalize hgw : w.heap.size = gw at *
  have hgw2 : w.heap.size ≤ gw := Nat.le_of_eq hgw
  clear hgw hle0
  go_wp2
  go_loopw [12, 11] (fun iv lv wr => ∃ (j : Nat) (Xj : WldK) (rs : List Res), iv = .int .i64 (j : Int) ∧ j ≤ most + 1 ∧ rs.length = j ∧ ResOwn wr gs lv j rs ∧ GoodR rs ∧ BoxW wr gw Xj ∧ WOk Xj ∧ Xj.T = X.T ∧ Xj.C = X.C ∧ aloneN P me (most + 1 - j) Xj (rs.map Res.n) = E ∧ Ext w wr ∧ gs ≤ wr.heap.size ∧ wr.heap[gp]? = some (.cells #[.int .i64 k, .int .i64 u, .int .i64 v, .int .u64 d] 24 (0, 0)) ∧ wr.heap[g8]? = some (.cells #[.int .i64 0, .int .i64 0, .slice none 0 0, .int .u64 0, .slice none 0 0, .slice none 0 0] 51 (0, 0)) ∧ wr.heap[g9]? = some (.cells #[.int .i64 0, .bool false, .int .i64 0, .int .u64 0, .slice none 0 0] 37 (0, 0))) (fun iv _ _ => most + 1 - (intOf iv).toNat)
  case atStart => exact ⟨0, X, [], rfl, Nat.zero_le _, rfl, ResOwn.nil _ _, (fun r hr => by cases hr), hbx, hX, rfl, rfl, HE.out, hWr, hgr, hp, h8, h9⟩
  case round =>
    obtain ⟨j, Xj, rs, rfl, hj, hrl, hown, hGR, hbx, hXj, hT, hC, hEj, hWr, hgr, hp, h8, h9⟩ := hrel
    have HEJ := Lib.hid hEj
    have HT := Lib.hid hT
    have HC := Lib.hid hC
    clear hEj HE hT hC
    obtain ⟨wA, wq, wc, wB, wb, wC, wd, hb0, hbV⟩ := hbx.form
    have HB0 := Lib.hid hb0
    have e0 : wr.cell? ⟨gw, 0, none⟩ = some (.int .i64 Xj.T) := by simp [World.cell?, hb0]
    have e1 : wr.cell? ⟨gw, 1, none⟩ = some (.int .i64 Xj.C) := by simp [World.cell?, hb0]
    have e2 : wr.cell? ⟨gw, 2, none⟩ = some (.slice wA wq wc) := by simp [World.cell?, hb0]
    have e3 : wr.cell? ⟨gw, 3, none⟩ = some (.int .u64 Xj.R) := by simp [World.cell?, hb0]
    have e4 : wr.cell? ⟨gw, 4, none⟩ = some (.slice wB Xj.n wb) := by simp [World.cell?, hb0]
    have e5 : wr.cell? ⟨gw, 5, none⟩ = some (.slice wC Xj.n wd) := by simp [World.cell?, hb0]
    have p0 : wr.cell? ⟨gp, 0, none⟩ = some (.int .i64 k) := by simp [World.cell?, hp]
    have p1 : wr.cell? ⟨gp, 1, none⟩ = some (.int .i64 u) := by simp [World.cell?, hp]
    have p2 : wr.cell? ⟨gp, 2, none⟩ = some (.int .i64 v) := by simp [World.cell?, hp]
    have p3 : wr.cell? ⟨gp, 3, none⟩ = some (.int .u64 d) := by simp [World.cell?, hp]
    rcases Nat.lt_or_ge most j with hlt | hle
    · have hji : ¬ (j : Int) ≤ (most : Int) := by omega
      obtain rfl : j = most + 1 := by omega
      have hEE : (Xj, (⟨0, false, 0, 0⟩ : OutN), false) = E := by rw [← HEJ.out, Nat.sub_self]; rfl
      have HEE := Lib.hid hEE
      clear hEE HEJ
      clear hb0
      have q0 : wr.cell? ⟨g8, 0, none⟩ = some (.int .i64 0) := by simp [World.cell?, h8]
      have qf0 : wr.frozen? ⟨g8, 0, none⟩ = false := by simp [World.frozen?, h8]
      have q1 : wr.cell? ⟨g8, 1, none⟩ = some (.int .i64 0) := by simp [World.cell?, h8]
      have qf1 : wr.frozen? ⟨g8, 1, none⟩ = false := by simp [World.frozen?, h8]
      have q2 : wr.cell? ⟨g8, 2, none⟩ = some (.slice none 0 0) := by simp [World.cell?, h8]
      have qf2 : wr.frozen? ⟨g8, 2, none⟩ = false := by simp [World.frozen?, h8]
      have q3 : wr.cell? ⟨g8, 3, none⟩ = some (.int .u64 0) := by simp [World.cell?, h8]
      have qf3 : wr.frozen? ⟨g8, 3, none⟩ = false := by simp [World.frozen?, h8]
      have q4 : wr.cell? ⟨g8, 4, none⟩ = some (.slice none 0 0) := by simp [World.cell?, h8]
      have qf4 : wr.frozen? ⟨g8, 4, none⟩ = false := by simp [World.frozen?, h8]
      have q5 : wr.cell? ⟨g8, 5, none⟩ = some (.slice none 0 0) := by simp [World.cell?, h8]
      have qf5 : wr.frozen? ⟨g8, 5, none⟩ = false := by simp [World.frozen?, h8]
      have r0 : wr.cell? ⟨g9, 0, none⟩ = some (.int .i64 0) := by simp [World.cell?, h9]
      have rf0 : wr.frozen? ⟨g9, 0, none⟩ = false := by simp [World.frozen?, h9]
      have r1 : wr.cell? ⟨g9, 1, none⟩ = some (.bool false) := by simp [World.cell?, h9]
      have rf1 : wr.frozen? ⟨g9, 1, none⟩ = false := by simp [World.frozen?, h9]
      have r2 : wr.cell? ⟨g9, 2, none⟩ = some (.int .i64 0) := by simp [World.cell?, h9]
      have rf2 : wr.frozen? ⟨g9, 2, none⟩ = false := by simp [World.frozen?, h9]
      have r3 : wr.cell? ⟨g9, 3, none⟩ = some (.int .u64 0) := by simp [World.cell?, h9]
      have rf3 : wr.frozen? ⟨g9, 3, none⟩ = false := by simp [World.frozen?, h9]
      have r4 : wr.cell? ⟨g9, 4, none⟩ = some (.slice none 0 0) := by simp [World.cell?, h9]
      have rf4 : wr.frozen? ⟨g9, 4, none⟩ = false := by simp [World.frozen?, h9]
      go_wp2
      have hQ8 : (setAll g9 0 [.int .i64 0, .bool false, .int .i64 0, .int .u64 0, .slice none 0 0] (setAll g8 0 [.int .i64 Xj.T, .int .i64 Xj.C, .slice wA wq wc, .int .u64 Xj.R, .slice wB Xj.n wb, .slice wC Xj.n wd] wr)).heap[g8]? = some (.cells #[.int .i64 Xj.T, .int .i64 Xj.C, .slice wA wq wc, .int .u64 Xj.R, .slice wB Xj.n wb, .slice wC Xj.n wd] 51 (0, 0)) := (setAll_other (g := g9) (by omega) [.int .i64 0, .bool false, .int .i64 0, .int .u64 0, .slice none 0 0] 0 (setAll g8 0 [.int .i64 Xj.T, .int .i64 Xj.C, .slice wA wq wc, .int .u64 Xj.R, .slice wB Xj.n wb, .slice wC Xj.n wd] wr)).trans (setAll_all (vs := [.int .i64 Xj.T, .int .i64 Xj.C, .slice wA wq wc, .int .u64 Xj.R, .slice wB Xj.n wb, .slice wC Xj.n wd]) h8 rfl)
      have hQ9 : (setAll g9 0 [.int .i64 0, .bool false, .int .i64 0, .int .u64 0, .slice none 0 0] (setAll g8 0 [.int .i64 Xj.T, .int .i64 Xj.C, .slice wA wq wc, .int .u64 Xj.R, .slice wB Xj.n wb, .slice wC Xj.n wd] wr)).heap[g9]? = some (.cells #[.int .i64 0, .bool false, .int .i64 0, .int .u64 0, .slice none 0 0] 37 (0, 0)) := setAll_all (vs := [.int .i64 0, .bool false, .int .i64 0, .int .u64 0, .slice none 0 0]) ((setAll_other (g := g8) (by omega) [.int .i64 Xj.T, .int .i64 Xj.C, .slice wA wq wc, .int .u64 Xj.R, .slice wB Xj.n wb, .slice wC Xj.n wd] 0 wr).trans h9) rfl
      have hV8 := hbV.but hXj.2.2 (But.all g8 [.int .i64 Xj.T, .int .i64 Xj.C, .slice wA wq wc, .int .u64 Xj.R, .slice wB Xj.n wb, .slice wC Xj.n wd] 0 wr) h8 rfl
      have hV9 := hV8.but hXj.2.2 (But.all g9 [.int .i64 0, .bool false, .int .i64 0, .int .u64 0, .slice none 0 0] 0 (setAll g8 0 [.int .i64 Xj.T, .int .i64 Xj.C, .slice wA wq wc, .int .u64 Xj.R, .slice wB Xj.n wb, .slice wC Xj.n wd] wr)) ((setAll_other (g := g8) (by omega) [.int .i64 Xj.T, .int .i64 Xj.C, .slice wA wq wc, .int .u64 Xj.R, .slice wB Xj.n wb, .slice wC Xj.n wd] 0 wr).trans h9) rfl
      have hF9 : Ext w (setAll g9 0 [.int .i64 0, .bool false, .int .i64 0, .int .u64 0, .slice none 0 0] (setAll g8 0 [.int .i64 Xj.T, .int .i64 Xj.C, .slice wA wq wc, .int .u64 Xj.R, .slice wB Xj.n wb, .slice wC Xj.n wd] wr)) := setAll_ext (g := g9) (setAll_ext (g := g8) hWr (by omega)) (by omega)
      simp only [setAll] at hQ8 hQ9 hV9 hF9
      generalize (((((((((((wr.setCell ⟨g8, 0, none⟩ (.int .i64 Xj.T)).setCell ⟨g8, 1, none⟩ (.int .i64 Xj.C)).setCell ⟨g8, 2, none⟩ (.slice wA wq wc)).setCell ⟨g8, 3, none⟩ (.int .u64 Xj.R)).setCell ⟨g8, 4, none⟩ (.slice wB Xj.n wb)).setCell ⟨g8, 5, none⟩ (.slice wC Xj.n wd)).setCell ⟨g9, 0, none⟩ (.int .i64 0)).setCell ⟨g9, 1, none⟩ (.bool false)).setCell ⟨g9, 2, none⟩ (.int .i64 0)).setCell ⟨g9, 3, none⟩ (.int .u64 0)).setCell ⟨g9, 4, none⟩ (.slice none 0 0)) = wf at *
      clear q0 q1 q2 q3 q4 q5 qf0 qf1 qf2 qf3 qf4 qf5 r0 r1 r2 r3 r4 rf0 rf1 rf2 rf3 rf4
      have q0 : wf.cell? ⟨g8, 0, none⟩ = some (.int .i64 Xj.T) := by simp [World.cell?, hQ8]
      have q1 : wf.cell? ⟨g8, 1, none⟩ = some (.int .i64 Xj.C) := by simp [World.cell?, hQ8]
      have q2 : wf.cell? ⟨g8, 2, none⟩ = some (.slice wA wq wc) := by simp [World.cell?, hQ8]
      have q3 : wf.cell? ⟨g8, 3, none⟩ = some (.int .u64 Xj.R) := by simp [World.cell?, hQ8]
      have q4 : wf.cell? ⟨g8, 4, none⟩ = some (.slice wB Xj.n wb) := by simp [World.cell?, hQ8]
      have q5 : wf.cell? ⟨g8, 5, none⟩ = some (.slice wC Xj.n wd) := by simp [World.cell?, hQ8]
      have r0 : wf.cell? ⟨g9, 0, none⟩ = some (.int .i64 0) := by simp [World.cell?, hQ9]
      have r1 : wf.cell? ⟨g9, 1, none⟩ = some (.bool false) := by simp [World.cell?, hQ9]
      have r2 : wf.cell? ⟨g9, 2, none⟩ = some (.int .i64 0) := by simp [World.cell?, hQ9]
      have r3 : wf.cell? ⟨g9, 3, none⟩ = some (.int .u64 0) := by simp [World.cell?, hQ9]
      have r4 : wf.cell? ⟨g9, 4, none⟩ = some (.slice none 0 0) := by simp [World.cell?, hQ9]
      refine bodyPost_ret (v := .tuple #[.agg #[.int .i64 Xj.T, .int .i64 Xj.C, .slice wA wq wc, .int .u64 Xj.R, .slice wB Xj.n wb, .slice wC Xj.n wd], .agg #[.int .i64 0, .bool false, .int .i64 0, .int .u64 0, .slice none 0 0], .bool false]) (by simp [results, Try.results22, go_sem, q0, q1, q2, q3, q4, q5, r0, r1, r2, r3, r4]) rfl ?_
      rw [← HEE.out]
      exact ⟨_, rfl, hV9, hF9⟩
    · obtain ⟨B, kc, rfl, hlog, hB2, hB4⟩ := hown.log (by omega)
      have hjI : (j : Int) ≤ (most : Int) := by omega
      have hEx : aloneN P me (most + 1 - j) Xj (rs.map Res.n) = aloneN P me (most - j + 1) Xj (rs.map Res.n) := by rw [show most + 1 - j = most - j + 1 by omega]
      go_wp2_with fail
      refine (hN Xj.T Xj.C B j kc rs _ HT.out HC.out (by omega) hlog hGR).mono ?_
      rintro e w1 ⟨he, hx⟩
      replace hbx := hbx.ext hx
      replace hbV := hbV.ext hx
      replace hb0 := heap_ext hb0 hx
      replace hp := heap_ext hp hx
      replace h8 := heap_ext h8 hx
      replace h9 := heap_ext h9 hx
      replace hown := hown.ext hx
      replace hgr := Nat.le_trans hgr hx.size
      replace hWr := hWr.trans hx
      clear hx hlog hB2 hB4 HB0 e0 e1 e2 e3 e4 e5 p0 p1 p2 p3
      cases hQ : P (rs.map Res.n) with
      | done o =>
        rw [hQ] at he
        subst he
        have hEE : (Xj, o, true) = E := by rw [← HEJ.out, hEx, aloneN, hQ]
        have HEE := Lib.hid hEE
        clear hEE HEJ hEx hQ
        obtain ⟨o0, o1, o2, o3⟩ := o
        simp only [NextE.fin, accZero, OutN.cells]
        go_upto_region 6 with (fail)
        obtain ⟨hx, hA13, hO14⟩ := two_boxes7 w1 (.cells #[.int .i64 0, .int .i64 0, .int .u64 0, .int .u64 0, .slice none 0 0, .slice none 0 0] 33) (.cells #[.int .i64 o0, .bool o1, .int .i64 o2, .int .u64 o3, .slice none 0 0] 37)
        generalize (w1.alloc (.cells #[.int .i64 0, .int .i64 0, .int .u64 0, .int .u64 0, .slice none 0 0, .slice none 0 0] 33)).alloc (.cells #[.int .i64 o0, .bool o1, .int .i64 o2, .int .u64 o3, .slice none 0 0] 37) = w2 at *
        replace hbx := hbx.ext hx
        replace hbV := hbV.ext hx
        replace hb0 := heap_ext hb0 hx
        replace h8 := heap_ext h8 hx
        replace h9 := heap_ext h9 hx
        have hgr1 := hgr
        replace hgr := Nat.le_trans hgr hx.size
        replace hWr := hWr.trans hx
        clear hx hA13
        generalize w1.heap.size = g13 at *
        have n8 : ¬ g8 = g13 + 1 := by omega
        have n8' : ¬ g13 + 1 = g8 := by omega
        have n9 : ¬ g9 = g13 + 1 := by omega
        have n8g : ¬ g8 = gw := by omega
        have n8g' : ¬ gw = g8 := by omega
        have e0 : w2.cell? ⟨gw, 0, none⟩ = some (.int .i64 Xj.T) := by simp [World.cell?, hb0]
        have e1 : w2.cell? ⟨gw, 1, none⟩ = some (.int .i64 Xj.C) := by simp [World.cell?, hb0]
        have e2 : w2.cell? ⟨gw, 2, none⟩ = some (.slice wA wq wc) := by simp [World.cell?, hb0]
        have e3 : w2.cell? ⟨gw, 3, none⟩ = some (.int .u64 Xj.R) := by simp [World.cell?, hb0]
        have e4 : w2.cell? ⟨gw, 4, none⟩ = some (.slice wB Xj.n wb) := by simp [World.cell?, hb0]
        have e5 : w2.cell? ⟨gw, 5, none⟩ = some (.slice wC Xj.n wd) := by simp [World.cell?, hb0]
        have o_0 : w2.cell? ⟨g13 + 1, 0, none⟩ = some (.int .i64 o0) := by simp [World.cell?, hO14]
        have o_1 : w2.cell? ⟨g13 + 1, 1, none⟩ = some (.bool o1) := by simp [World.cell?, hO14]
        have o_2 : w2.cell? ⟨g13 + 1, 2, none⟩ = some (.int .i64 o2) := by simp [World.cell?, hO14]
        have o_3 : w2.cell? ⟨g13 + 1, 3, none⟩ = some (.int .u64 o3) := by simp [World.cell?, hO14]
        have o_4 : w2.cell? ⟨g13 + 1, 4, none⟩ = some (.slice none 0 0) := by simp [World.cell?, hO14]
        clear hb0 hO14
        have q0 : w2.cell? ⟨g8, 0, none⟩ = some (.int .i64 0) := by simp [World.cell?, h8]
        have qf0 : w2.frozen? ⟨g8, 0, none⟩ = false := by simp [World.frozen?, h8]
        have q1 : w2.cell? ⟨g8, 1, none⟩ = some (.int .i64 0) := by simp [World.cell?, h8]
        have qf1 : w2.frozen? ⟨g8, 1, none⟩ = false := by simp [World.frozen?, h8]
        have q2 : w2.cell? ⟨g8, 2, none⟩ = some (.slice none 0 0) := by simp [World.cell?, h8]
        have qf2 : w2.frozen? ⟨g8, 2, none⟩ = false := by simp [World.frozen?, h8]
        have q3 : w2.cell? ⟨g8, 3, none⟩ = some (.int .u64 0) := by simp [World.cell?, h8]
        have qf3 : w2.frozen? ⟨g8, 3, none⟩ = false := by simp [World.frozen?, h8]
        have q4 : w2.cell? ⟨g8, 4, none⟩ = some (.slice none 0 0) := by simp [World.cell?, h8]
        have qf4 : w2.frozen? ⟨g8, 4, none⟩ = false := by simp [World.frozen?, h8]
        have q5 : w2.cell? ⟨g8, 5, none⟩ = some (.slice none 0 0) := by simp [World.cell?, h8]
        have qf5 : w2.frozen? ⟨g8, 5, none⟩ = false := by simp [World.frozen?, h8]
        have r0 : w2.cell? ⟨g9, 0, none⟩ = some (.int .i64 0) := by simp [World.cell?, h9]
        have rf0 : w2.frozen? ⟨g9, 0, none⟩ = false := by simp [World.frozen?, h9]
        have r1 : w2.cell? ⟨g9, 1, none⟩ = some (.bool false) := by simp [World.cell?, h9]
        have rf1 : w2.frozen? ⟨g9, 1, none⟩ = false := by simp [World.frozen?, h9]
        have r2 : w2.cell? ⟨g9, 2, none⟩ = some (.int .i64 0) := by simp [World.cell?, h9]
        have rf2 : w2.frozen? ⟨g9, 2, none⟩ = false := by simp [World.frozen?, h9]
        have r3 : w2.cell? ⟨g9, 3, none⟩ = some (.int .u64 0) := by simp [World.cell?, h9]
        have rf3 : w2.frozen? ⟨g9, 3, none⟩ = false := by simp [World.frozen?, h9]
        have r4 : w2.cell? ⟨g9, 4, none⟩ = some (.slice none 0 0) := by simp [World.cell?, h9]
        have rf4 : w2.frozen? ⟨g9, 4, none⟩ = false := by simp [World.frozen?, h9]
        go_wp2
        go_region
        all_goals
          have hQ8 : (setAll g9 0 [.int .i64 o0, .bool o1, .int .i64 o2, .int .u64 o3, .slice none 0 0] (setAll g8 0 [.int .i64 Xj.T, .int .i64 Xj.C, .slice wA wq wc, .int .u64 Xj.R, .slice wB Xj.n wb, .slice wC Xj.n wd] w2)).heap[g8]? = some (.cells #[.int .i64 Xj.T, .int .i64 Xj.C, .slice wA wq wc, .int .u64 Xj.R, .slice wB Xj.n wb, .slice wC Xj.n wd] 51 (0, 0)) := (setAll_other (g := g9) (by omega) [.int .i64 o0, .bool o1, .int .i64 o2, .int .u64 o3, .slice none 0 0] 0 (setAll g8 0 [.int .i64 Xj.T, .int .i64 Xj.C, .slice wA wq wc, .int .u64 Xj.R, .slice wB Xj.n wb, .slice wC Xj.n wd] w2)).trans (setAll_all (vs := [.int .i64 Xj.T, .int .i64 Xj.C, .slice wA wq wc, .int .u64 Xj.R, .slice wB Xj.n wb, .slice wC Xj.n wd]) h8 rfl)
          have hQ9 : (setAll g9 0 [.int .i64 o0, .bool o1, .int .i64 o2, .int .u64 o3, .slice none 0 0] (setAll g8 0 [.int .i64 Xj.T, .int .i64 Xj.C, .slice wA wq wc, .int .u64 Xj.R, .slice wB Xj.n wb, .slice wC Xj.n wd] w2)).heap[g9]? = some (.cells #[.int .i64 o0, .bool o1, .int .i64 o2, .int .u64 o3, .slice none 0 0] 37 (0, 0)) := setAll_all (vs := [.int .i64 o0, .bool o1, .int .i64 o2, .int .u64 o3, .slice none 0 0]) ((setAll_other (g := g8) (by omega) [.int .i64 Xj.T, .int .i64 Xj.C, .slice wA wq wc, .int .u64 Xj.R, .slice wB Xj.n wb, .slice wC Xj.n wd] 0 w2).trans h9) rfl
          have hV8 := hbV.but hXj.2.2 (But.all g8 [.int .i64 Xj.T, .int .i64 Xj.C, .slice wA wq wc, .int .u64 Xj.R, .slice wB Xj.n wb, .slice wC Xj.n wd] 0 w2) h8 rfl
          have hV9 := hV8.but hXj.2.2 (But.all g9 [.int .i64 o0, .bool o1, .int .i64 o2, .int .u64 o3, .slice none 0 0] 0 (setAll g8 0 [.int .i64 Xj.T, .int .i64 Xj.C, .slice wA wq wc, .int .u64 Xj.R, .slice wB Xj.n wb, .slice wC Xj.n wd] w2)) ((setAll_other (g := g8) (by omega) [.int .i64 Xj.T, .int .i64 Xj.C, .slice wA wq wc, .int .u64 Xj.R, .slice wB Xj.n wb, .slice wC Xj.n wd] 0 w2).trans h9) rfl
          have hF9 : Ext w (setAll g9 0 [.int .i64 o0, .bool o1, .int .i64 o2, .int .u64 o3, .slice none 0 0] (setAll g8 0 [.int .i64 Xj.T, .int .i64 Xj.C, .slice wA wq wc, .int .u64 Xj.R, .slice wB Xj.n wb, .slice wC Xj.n wd] w2)) := setAll_ext (g := g9) (setAll_ext (g := g8) hWr (by omega)) (by omega)
          simp only [setAll] at hQ8 hQ9 hV9 hF9
          generalize (((((((((((w2.setCell ⟨g8, 0, none⟩ (.int .i64 Xj.T)).setCell ⟨g8, 1, none⟩ (.int .i64 Xj.C)).setCell ⟨g8, 2, none⟩ (.slice wA wq wc)).setCell ⟨g8, 3, none⟩ (.int .u64 Xj.R)).setCell ⟨g8, 4, none⟩ (.slice wB Xj.n wb)).setCell ⟨g8, 5, none⟩ (.slice wC Xj.n wd)).setCell ⟨g9, 0, none⟩ (.int .i64 o0)).setCell ⟨g9, 1, none⟩ (.bool o1)).setCell ⟨g9, 2, none⟩ (.int .i64 o2)).setCell ⟨g9, 3, none⟩ (.int .u64 o3)).setCell ⟨g9, 4, none⟩ (.slice none 0 0)) = wf at *
          clear q0 q1 q2 q3 q4 q5 qf0 qf1 qf2 qf3 qf4 qf5 r0 r1 r2 r3 r4 rf0 rf1 rf2 rf3 rf4
          have hQ8d : wf.drew.heap[g8]? = _ := hQ8
          have hQ9d : wf.drew.heap[g9]? = _ := hQ9
          replace hV9 := hV9.ext (Ext.refl wf.drew).drawn
          replace hF9 := hF9.trans (Ext.refl wf.drew).drawn
          generalize wf.drew = wf at *
          clear hQ8 hQ9
          have hQ8 := hQ8d
          have hQ9 := hQ9d
          clear hQ8d hQ9d
          have q0 : wf.cell? ⟨g8, 0, none⟩ = some (.int .i64 Xj.T) := by simp [World.cell?, hQ8]
          have q1 : wf.cell? ⟨g8, 1, none⟩ = some (.int .i64 Xj.C) := by simp [World.cell?, hQ8]
          have q2 : wf.cell? ⟨g8, 2, none⟩ = some (.slice wA wq wc) := by simp [World.cell?, hQ8]
          have q3 : wf.cell? ⟨g8, 3, none⟩ = some (.int .u64 Xj.R) := by simp [World.cell?, hQ8]
          have q4 : wf.cell? ⟨g8, 4, none⟩ = some (.slice wB Xj.n wb) := by simp [World.cell?, hQ8]
          have q5 : wf.cell? ⟨g8, 5, none⟩ = some (.slice wC Xj.n wd) := by simp [World.cell?, hQ8]
          have r0 : wf.cell? ⟨g9, 0, none⟩ = some (.int .i64 o0) := by simp [World.cell?, hQ9]
          have r1 : wf.cell? ⟨g9, 1, none⟩ = some (.bool o1) := by simp [World.cell?, hQ9]
          have r2 : wf.cell? ⟨g9, 2, none⟩ = some (.int .i64 o2) := by simp [World.cell?, hQ9]
          have r3 : wf.cell? ⟨g9, 3, none⟩ = some (.int .u64 o3) := by simp [World.cell?, hQ9]
          have r4 : wf.cell? ⟨g9, 4, none⟩ = some (.slice none 0 0) := by simp [World.cell?, hQ9]
          go_wp2
          refine bodyPost_ret (v := .tuple #[.agg #[.int .i64 Xj.T, .int .i64 Xj.C, .slice wA wq wc, .int .u64 Xj.R, .slice wB Xj.n wb, .slice wC Xj.n wd], .agg #[.int .i64 o0, .bool o1, .int .i64 o2, .int .u64 o3, .slice none 0 0], .bool true]) (by simp [results, Try.results22, go_sem, q0, q1, q2, q3, q4, q5, r0, r1, r2, r3, r4]) rfl ?_
          rw [← HEE.out]
          exact ⟨_, rfl, hV9, hF9⟩
      | stop x =>
        rw [hQ] at he
        subst he
        obtain ⟨a, rfl, haok⟩ := hP _ _ hGR.u64s hQ
        have hEJ : aloneN P me (most - j) (doK Xj me a.K false) (rs.map Res.n ++ [(doR Xj a.K false).N]) = E := by rw [← HEJ.out, hEx, aloneN, hQ]; rfl
        clear HEJ hEx hQ
        obtain ⟨hX1, hU1, hT1, hC1⟩ := hXj.step me haok
        generalize hKX : doK Xj me a.K false = X1 at *
        generalize hKR : doR Xj a.K false = R1 at *
        have HKX := Lib.hid hKX
        have HKR := Lib.hid hKR
        have HEJ := Lib.hid hEJ
        have HT1 := Lib.hid (hT1.trans HT.out)
        have HC1 := Lib.hid (hC1.trans HC.out)
        clear hKX hKR hEJ hT1 hC1
        have hAV : ∀ (W : World), AccV W (.agg a.acc.cells) a.K := fun W => ⟨none, 0, 0, none, 0, 0, rfl, bytes_nil _, words_nil _, haok.2.2.1, haok.2.2.2⟩
        have hu : useM a.K false = 0 := useM_word haok.2.1
        obtain ⟨a0, a1, a2, a3⟩ := a
        simp only [NextE.fin, Ask.acc, Acc.cells, outZero] at hAV ⊢
        go_upto_region 6 with (fail)
        obtain ⟨hx, hA13, hO14⟩ := two_boxes7 w1 (.cells #[.int .i64 a0, .int .i64 a1, .int .u64 a2, .int .u64 a3, .slice none 0 0, .slice none 0 0] 33) (.cells #[.int .i64 0, .bool false, .int .i64 0, .int .u64 0, .slice none 0 0] 37)
        generalize (w1.alloc (.cells #[.int .i64 a0, .int .i64 a1, .int .u64 a2, .int .u64 a3, .slice none 0 0, .slice none 0 0] 33)).alloc (.cells #[.int .i64 0, .bool false, .int .i64 0, .int .u64 0, .slice none 0 0] 37) = w2 at *
        replace hbx := hbx.ext hx
        replace hbV := hbV.ext hx
        replace hb0 := heap_ext hb0 hx
        replace hp := heap_ext hp hx
        replace h8 := heap_ext h8 hx
        replace h9 := heap_ext h9 hx
        replace hown := hown.ext hx
        replace hgr := Nat.le_trans hgr hx.size
        replace hWr := hWr.trans hx
        clear hx hO14
        generalize w1.heap.size = g13 at *
        have e0 : w2.cell? ⟨gw, 0, none⟩ = some (.int .i64 Xj.T) := by simp [World.cell?, hb0]
        have e1 : w2.cell? ⟨gw, 1, none⟩ = some (.int .i64 Xj.C) := by simp [World.cell?, hb0]
        have e2 : w2.cell? ⟨gw, 2, none⟩ = some (.slice wA wq wc) := by simp [World.cell?, hb0]
        have e3 : w2.cell? ⟨gw, 3, none⟩ = some (.int .u64 Xj.R) := by simp [World.cell?, hb0]
        have e4 : w2.cell? ⟨gw, 4, none⟩ = some (.slice wB Xj.n wb) := by simp [World.cell?, hb0]
        have e5 : w2.cell? ⟨gw, 5, none⟩ = some (.slice wC Xj.n wd) := by simp [World.cell?, hb0]
        have f0 : w2.cell? ⟨g13, 0, none⟩ = some (.int .i64 a0) := by simp [World.cell?, hA13]
        have f1 : w2.cell? ⟨g13, 1, none⟩ = some (.int .i64 a1) := by simp [World.cell?, hA13]
        have f2 : w2.cell? ⟨g13, 2, none⟩ = some (.int .u64 a2) := by simp [World.cell?, hA13]
        have f3 : w2.cell? ⟨g13, 3, none⟩ = some (.int .u64 a3) := by simp [World.cell?, hA13]
        have f4 : w2.cell? ⟨g13, 4, none⟩ = some (.slice none 0 0) := by simp [World.cell?, hA13]
        have f5 : w2.cell? ⟨g13, 5, none⟩ = some (.slice none 0 0) := by simp [World.cell?, hA13]
        go_wp2_with fail
        refine (do_all _ _ Xj me ⟨a0, a1, a2, a3, [], []⟩ false _ hbV (hAV _) (by have := hXj.1; rw [show (⟨a0, a1, a2, a3, [], []⟩ : AccK) = (⟨a0, a1, a2, a3⟩ : Ask).K from rfl, hu]; exact this)).mono ?_
        rintro e w3 ⟨v1, r1, rfl, hV1, hR1, hx⟩
        rw [show doK Xj me ⟨a0, a1, a2, a3, [], []⟩ false = X1 from HKX.out] at hV1
        rw [show doR Xj ⟨a0, a1, a2, a3, [], []⟩ false = R1 from HKR.out] at hR1
        obtain ⟨zA, zq, zc, zB, zb, zC, zd, rfl⟩ := hV1.form6
        obtain ⟨yS, ys, yt, rfl, -⟩ := hR1
        replace hb0 := heap_ext hb0 hx
        replace hp := heap_ext hp hx
        replace h8 := heap_ext h8 hx
        replace h9 := heap_ext h9 hx
        replace hown := hown.ext hx
        replace hgr := Nat.le_trans hgr hx.size
        replace hWr := hWr.trans hx
        clear hx hA13 hbV hbx hAV e0 e1 e2 e3 e4 e5 f0 f1 f2 f3 f4 f5
        go_upto_region 9 with (fail)
        obtain ⟨hx, h16, h17⟩ := two_boxes7 w3 (.cells #[.int .i64 X1.T, .int .i64 X1.C, .slice zA zq zc, .int .u64 X1.R, .slice zB X1.n zb, .slice zC X1.n zd] 51) (.cells #[.int .u64 R1.N, .slice yS ys yt, .bool R1.fail] 59)
        generalize (w3.alloc (.cells #[.int .i64 X1.T, .int .i64 X1.C, .slice zA zq zc, .int .u64 X1.R, .slice zB X1.n zb, .slice zC X1.n zd] 51)).alloc (.cells #[.int .u64 R1.N, .slice yS ys yt, .bool R1.fail] 59) = w4 at *
        replace hb0 := heap_ext hb0 hx
        replace hp := heap_ext hp hx
        replace h8 := heap_ext h8 hx
        replace h9 := heap_ext h9 hx
        replace hown := hown.ext hx
        have hgr3 := hgr
        replace hgr := Nat.le_trans hgr hx.size
        replace hWr := hWr.trans hx
        replace hV1 := hV1.ext hx
        clear hx
        generalize w3.heap.size = g16 at *
        have n16 : ¬ g16 = gw := by omega
        have n17 : ¬ g16 + 1 = gw := by omega
        have f0 : w4.cell? ⟨g16, 0, none⟩ = some (.int .i64 X1.T) := by simp [World.cell?, h16]
        have f1 : w4.cell? ⟨g16, 1, none⟩ = some (.int .i64 X1.C) := by simp [World.cell?, h16]
        have f2 : w4.cell? ⟨g16, 2, none⟩ = some (.slice zA zq zc) := by simp [World.cell?, h16]
        have f3 : w4.cell? ⟨g16, 3, none⟩ = some (.int .u64 X1.R) := by simp [World.cell?, h16]
        have f4 : w4.cell? ⟨g16, 4, none⟩ = some (.slice zB X1.n zb) := by simp [World.cell?, h16]
        have f5 : w4.cell? ⟨g16, 5, none⟩ = some (.slice zC X1.n zd) := by simp [World.cell?, h16]
        have e0 : w4.cell? ⟨gw, 0, none⟩ = some (.int .i64 Xj.T) := by simp [World.cell?, hb0]
        have ef0 : w4.frozen? ⟨gw, 0, none⟩ = false := by simp [World.frozen?, hb0]
        have e1 : w4.cell? ⟨gw, 1, none⟩ = some (.int .i64 Xj.C) := by simp [World.cell?, hb0]
        have ef1 : w4.frozen? ⟨gw, 1, none⟩ = false := by simp [World.frozen?, hb0]
        have e2 : w4.cell? ⟨gw, 2, none⟩ = some (.slice wA wq wc) := by simp [World.cell?, hb0]
        have ef2 : w4.frozen? ⟨gw, 2, none⟩ = false := by simp [World.frozen?, hb0]
        have e3 : w4.cell? ⟨gw, 3, none⟩ = some (.int .u64 Xj.R) := by simp [World.cell?, hb0]
        have ef3 : w4.frozen? ⟨gw, 3, none⟩ = false := by simp [World.frozen?, hb0]
        have e4 : w4.cell? ⟨gw, 4, none⟩ = some (.slice wB Xj.n wb) := by simp [World.cell?, hb0]
        have ef4 : w4.frozen? ⟨gw, 4, none⟩ = false := by simp [World.frozen?, hb0]
        have e5 : w4.cell? ⟨gw, 5, none⟩ = some (.slice wC Xj.n wd) := by simp [World.cell?, hb0]
        have ef5 : w4.frozen? ⟨gw, 5, none⟩ = false := by simp [World.frozen?, hb0]
        go_upto_region 10 with (fail)
        have hbx2 : ((((((w4.setCell ⟨gw, 0, none⟩ (.int .i64 X1.T)).setCell ⟨gw, 1, none⟩ (.int .i64 X1.C)).setCell ⟨gw, 2, none⟩ (.slice zA zq zc)).setCell ⟨gw, 3, none⟩ (.int .u64 X1.R)).setCell ⟨gw, 4, none⟩ (.slice zB X1.n zb)).setCell ⟨gw, 5, none⟩ (.slice zC X1.n zd)).heap[gw]? = some (.cells #[.int .i64 X1.T, .int .i64 X1.C, .slice zA zq zc, .int .u64 X1.R, .slice zB X1.n zb, .slice zC X1.n zd] 51 (0, 0)) := setAll_all (vs := [.int .i64 X1.T, .int .i64 X1.C, .slice zA zq zc, .int .u64 X1.R, .slice zB X1.n zb, .slice zC X1.n zd]) hb0 rfl
        have hWg : Ext w ((((((w4.setCell ⟨gw, 0, none⟩ (.int .i64 X1.T)).setCell ⟨gw, 1, none⟩ (.int .i64 X1.C)).setCell ⟨gw, 2, none⟩ (.slice zA zq zc)).setCell ⟨gw, 3, none⟩ (.int .u64 X1.R)).setCell ⟨gw, 4, none⟩ (.slice zB X1.n zb)).setCell ⟨gw, 5, none⟩ (.slice zC X1.n zd)) := setAll_ext (g := gw) (vs := [.int .i64 X1.T, .int .i64 X1.C, .slice zA zq zc, .int .u64 X1.R, .slice zB X1.n zb, .slice zC X1.n zd]) (i := 0) hWr hgw2
        have hk2 : ∀ g, g ≠ gw → ((((((w4.setCell ⟨gw, 0, none⟩ (.int .i64 X1.T)).setCell ⟨gw, 1, none⟩ (.int .i64 X1.C)).setCell ⟨gw, 2, none⟩ (.slice zA zq zc)).setCell ⟨gw, 3, none⟩ (.int .u64 X1.R)).setCell ⟨gw, 4, none⟩ (.slice zB X1.n zb)).setCell ⟨gw, 5, none⟩ (.slice zC X1.n zd)).heap[g]? = w4.heap[g]? := fun g hg => setAll_other (g := gw) (k := g) hg [.int .i64 X1.T, .int .i64 X1.C, .slice zA zq zc, .int .u64 X1.R, .slice zB X1.n zb, .slice zC X1.n zd] 0 w4
        have hown2 := hown.kept (fun g o hg ho => (hk2 g (by omega)).trans ho)
        have hp2 := (hk2 gp (by omega)).trans hp
        have h82 := (hk2 g8 (by omega)).trans h8
        have h92 := (hk2 g9 (by omega)).trans h9
        have h172 := (hk2 (g16 + 1) n17).trans h17
        have hV3 := hV1.but hX1.2.2 (But.all gw [.int .i64 X1.T, .int .i64 X1.C, .slice zA zq zc, .int .u64 X1.R, .slice zB X1.n zb, .slice zC X1.n zd] 0 w4) hb0 rfl
        change WldV ((((((w4.setCell ⟨gw, 0, none⟩ (.int .i64 X1.T)).setCell ⟨gw, 1, none⟩ (.int .i64 X1.C)).setCell ⟨gw, 2, none⟩ (.slice zA zq zc)).setCell ⟨gw, 3, none⟩ (.int .u64 X1.R)).setCell ⟨gw, 4, none⟩ (.slice zB X1.n zb)).setCell ⟨gw, 5, none⟩ (.slice zC X1.n zd)) _ _ at hV3
        have hgs2 : gs ≤ ((((((w4.setCell ⟨gw, 0, none⟩ (.int .i64 X1.T)).setCell ⟨gw, 1, none⟩ (.int .i64 X1.C)).setCell ⟨gw, 2, none⟩ (.slice zA zq zc)).setCell ⟨gw, 3, none⟩ (.int .u64 X1.R)).setCell ⟨gw, 4, none⟩ (.slice zB X1.n zb)).setCell ⟨gw, 5, none⟩ (.slice zC X1.n zd)).heap.size := by rw [show ((((((w4.setCell ⟨gw, 0, none⟩ (.int .i64 X1.T)).setCell ⟨gw, 1, none⟩ (.int .i64 X1.C)).setCell ⟨gw, 2, none⟩ (.slice zA zq zc)).setCell ⟨gw, 3, none⟩ (.int .u64 X1.R)).setCell ⟨gw, 4, none⟩ (.slice zB X1.n zb)).setCell ⟨gw, 5, none⟩ (.slice zC X1.n zd)).heap.size = w4.heap.size from by simp [World.setCell]]; exact hgr
        clear hk2 hown hp h8 h9 h16 h17 hb0 hV1 hWr hgr f0 f1 f2 f3 f4 f5 e0 e1 e2 e3 e4 e5 ef0 ef1 ef2 ef3 ef4 ef5
        generalize ((((((w4.setCell ⟨gw, 0, none⟩ (.int .i64 X1.T)).setCell ⟨gw, 1, none⟩ (.int .i64 X1.C)).setCell ⟨gw, 2, none⟩ (.slice zA zq zc)).setCell ⟨gw, 3, none⟩ (.int .u64 X1.R)).setCell ⟨gw, 4, none⟩ (.slice zB X1.n zb)).setCell ⟨gw, 5, none⟩ (.slice zC X1.n zd)) = wg at *
        have f0 : wg.cell? ⟨g16 + 1, 0, none⟩ = some (.int .u64 R1.N) := by simp [World.cell?, h172]
        have f1 : wg.cell? ⟨g16 + 1, 1, none⟩ = some (.slice yS ys yt) := by simp [World.cell?, h172]
        have f2 : wg.cell? ⟨g16 + 1, 2, none⟩ = some (.bool R1.fail) := by simp [World.cell?, h172]
        generalize hr : (⟨R1.N, yS, ys, yt, R1.fail⟩ : Res) = r
        have hrc : resCells [r] = [.int .u64 R1.N, .slice yS ys yt, .bool R1.fail] := by rw [← hr]; rfl
        have hrn : r.n = R1.N := by rw [← hr]
        have hWn : Ext wg (wg.alloc (.cells #[.int .u64 R1.N, .slice yS ys yt, .bool R1.fail] 59)) := (Below.refl _ wg).alloc (Nat.le_refl _) _
        have hcn : ∀ (i : Nat) (u : Value), (resCells [r])[i]? = some u → (wg.alloc (.cells #[.int .u64 R1.N, .slice yS ys yt, .bool R1.fail] 59)).cell? ((⟨wg.heap.size, 0, none⟩ : Addr).add i) = some u := by rw [hrc]; exact heap_cells (heap_alloc_new wg _)
        have HR := Lib.hid hrn
        clear hr hrn hrc
        have hown3 := hown2.ext hWn
        go_wp2_with (at_builtin; refine wpList_append_res rfl (.tmp 48) (.tmp 50) _ rfl gs i0 Try.underlying25 hi0 hz0 hz1 hz2 _ j rs rfl hown3 ⟨wg.heap.size, 0, none⟩ 1 r rfl hcn (by omega) (Nat.le_trans hgs2 hWn.size) ?_; intro v2 w5 hown5 hg5)
        have hE5 : Ext w w5 := grown_ext hown3 hg5 (hWg.trans hWn) (by omega)
        have hbx5 : BoxW w5 gw X1 := ⟨_, grown_heap hown3 hg5 (by omega) (heap_ext hbx2 hWn), WldV.grown hown3 hg5 (hV3.ext hWn) hX1.2.2⟩
        have hgs5 : gs ≤ w5.heap.size := Nat.le_trans hgs2 (Nat.le_trans hWn.size hg5.size)
        have hp5 := grown_heap hown3 hg5 (by omega) (heap_ext hp2 hWn)
        have h85 := grown_heap hown3 hg5 (by omega) (heap_ext h82 hWn)
        have h95 := grown_heap hown3 hg5 (by omega) (heap_ext h92 hWn)
        have hGR5 : GoodR (rs ++ [r]) := hGR.snoc (by rw [HR.out]; exact hU1)
        have hE6 : aloneN P me (most + 1 - (j + 1)) X1 ((rs ++ [r]).map Res.n) = E := by rw [List.map_append, List.map_cons, List.map_nil, HR.out, show most + 1 - (j + 1) = most - j by omega]; exact HEJ.out
        have HE6 := Lib.hid hE6
        clear hcn hown2 hown3 hg5 f0 f1 f2 h172 hbx2 hV3 hWn hWg hp2 h82 h92 hE6 HEJ
        go_wp2
        go_roundw
        case rel => exact ⟨j + 1, X1, rs ++ [r], by go_num, by omega, by simp [hrl], hown5, hGR5, hbx5, hX1, HT1.out, HC1.out, HE6.out, hE5, hgs5, hp5, h85, h95⟩
        case measure => simp [intOf]; omega
end Go.Proofs.Ytjokaginolpbeaa

namespace Go.Proofs.Ytjokaginolpbeaa
open Go.RowKit

/-! Operations on epochs, as trees. -/
def incW (e : Int) : Int := (e + 1) % 18446744073709551616
theorem incW_u (e : Int) : U64 (incW e) := by unfold incW U64; omega
def limboI (e : Int) : Int := 4 + e % 3
def pinT (me : Int) : PT Int := .ask (askL 3) fun e => .ask (askS (8 + me) (incW e)) fun _ => .ret 0
def unpinT (me : Int) : PT Int := .ask (askS (8 + me) 0) fun _ => .ret 0
def retireL (t r at_ : Int) : Nat → PT Int
  | 0 => .out
  | f + 1 => .ask (askL at_) fun h => .ask (askS (linkI t r) h) fun _ => .ask (askC at_ h r) fun c => if c = 1 then .ret 0 else retireL t r at_ f
def retireT (t r : Int) (f : Nat) : PT Int := .ask (askL 3) fun e => retireL t r (limboI e) f
def pinsT (e : Int) : Nat → Int → PT Bool
  | 0, _ => .ret true
  | n + 1, i => .ask (askL (8 + i)) fun p => if p = 0 ∨ p = incW e then pinsT e n (i + 1) else .ret false
def chainT (t : Int) (f : Nat) : Nat → Int → PT Int
  | 0, _ => .out
  | g + 1, r => if r = 0 then .ret 0 else .ask (askL (linkI t r)) fun n => (pushT t r f).bind fun _ => chainT t f g (firstF n)
def advT (t : Int) (f : Nat) : PT Bool := .ask (askL 3) fun e => (pinsT e t.toNat 0).bind fun ok =>
  if ok then .ask (askC 3 e (incW e)) fun c => if c = 1 then .ask (askX (limboI ((e + 2) % 18446744073709551616)) 0) fun h => (chainT t f f (firstF h)).bind fun _ => .ret true else .ret false else .ret false
def allocL (t me : Int) (f : Nat) : Nat → Int → PT Int
  | 0, r => .ret r
  | n + 1, r => if r = 0 then (pinT me).bind fun _ => (advT t f).bind fun _ => (popT t f).bind fun r' => allocL t me f n r' else .ret r
def allocT (t me : Int) (f : Nat) : PT Int := (popT t f).bind fun r => allocL t me f 3 r
/-- what an operation of records does -/
def epochT (t me kind u : Int) (f : Nat) : PT OutN :=
  if kind = 3 then (pinT me).bind fun _ => .ret ⟨0, false, 0, 0⟩
  else if kind = 4 then (unpinT me).bind fun _ => .ret ⟨0, false, 0, 0⟩
  else if kind = 5 then (retireT t u f).bind fun _ => .ret ⟨0, false, 0, 0⟩
  else if kind = 19 then (advT t f).bind fun b => .ret ⟨0, b, 0, 0⟩
  else if kind = 6 then (allocT t me f).bind fun r => .ret ⟨0, false, r, 0⟩
  else .ret ⟨1, false, 0, 0⟩
/-! Their accesses may be made. -/
theorem pinT_ok (me : Int) : (pinT me).Ok := ⟨askL_ok _, fun _ _ => ⟨askS_ok _ (incW_u _), fun _ _ => trivial⟩⟩
theorem unpinT_ok (me : Int) : (unpinT me).Ok := ⟨askS_ok _ u64_zero, fun _ _ => trivial⟩
theorem retireL_ok (t r at_ : Int) (hr : U64 r) : ∀ f, (retireL t r at_ f).Ok
  | 0 => trivial
  | f + 1 => ⟨askL_ok _, fun h hh => ⟨askS_ok _ hh, fun _ _ => ⟨askC_ok _ hh hr, fun c _ => by
        show PT.Ok (ite _ _ _)
        split
        · trivial
        · exact retireL_ok t r at_ hr f⟩⟩⟩
theorem pinsT_ok (e : Int) : ∀ n i, (pinsT e n i).Ok
  | 0, _ => trivial
  | n + 1, i => ⟨askL_ok _, fun p _ => by
      show PT.Ok (ite _ _ _)
      split
      · exact pinsT_ok e n (i + 1)
      · trivial⟩
theorem chainT_ok (t : Int) (f : Nat) : ∀ g r, (chainT t f g r).Ok
  | 0, _ => trivial
  | g + 1, r => by
    unfold chainT
    split
    · trivial
    · exact ⟨askL_ok _, fun n _ => (pushT_ok t r f).bind fun _ => chainT_ok t f g _⟩
theorem advT_ok (t : Int) (f : Nat) : (advT t f).Ok := ⟨askL_ok _, fun e he => (pinsT_ok e _ _).bind fun ok => by
  show PT.Ok (ite _ _ _)
  split
  · exact ⟨askC_ok _ he (incW_u _), fun c _ => by
      show PT.Ok (ite _ _ _)
      split
      · exact ⟨askX_ok _ u64_zero, fun h _ => (chainT_ok t f f _).bind fun _ => trivial⟩
      · trivial⟩
  · trivial⟩
theorem allocL_ok (t me : Int) (f : Nat) : ∀ n r, (allocL t me f n r).Ok
  | 0, r => trivial
  | n + 1, r => by
    unfold allocL
    split
    · exact (pinT_ok me).bind fun _ => (advT_ok t f).bind fun _ => (popT_ok t f).bind fun r' => allocL_ok t me f n r'
    · trivial
theorem epochT_ok (t me kind u : Int) (f : Nat) (hu : kind = 5 → U64 u) : (epochT t me kind u f).Ok := by
  unfold epochT
  split
  · exact (pinT_ok me).bind fun _ => trivial
  split
  · exact (unpinT_ok me).bind fun _ => trivial
  split
  · rename_i h
    exact PT.Ok.bind (T := retireT t u f) ⟨askL_ok _, fun e _ => retireL_ok t u _ (hu h) f⟩ fun _ => trivial
  split
  · exact (advT_ok t f).bind fun _ => trivial
  split
  · exact ((popT_ok t f).bind fun r => allocL_ok t me f 3 r).bind fun _ => trivial
  · trivial
/-! They do not run out. -/
def PT.Fed {α : Type} : Nat → PT α → Prop
  | _, .ret _ => True
  | _, .out => False
  | 0, .ask _ _ => True
  | n + 1, .ask _ k => ∀ v, (k v).Fed n
theorem PT.Fed.run {α β : Type} (num : β → Int) : ∀ {l : List β} {T : PT α}, T.Fed l.length → T.run (stM num) l ≠ .out
  | l, .ret a, _ => by cases l <;> simp [PT.run]
  | l, .out, h => by cases l <;> exact h.elim
  | [], .ask x k, _ => by simp [PT.run, stM]
  | v :: l, .ask x k, h => by
    simp only [PT.run, stM]
    exact PT.Fed.run num (h (num v))
theorem PT.Fed.bind {α β : Type} {f : α → PT β} : ∀ {n : Nat} {T : PT α}, T.Fed n → (∀ a m, m ≤ n → (f a).Fed m) → (T.bind f).Fed n
  | n, .ret a, _, h => h a n (Nat.le_refl _)
  | n, .out, h, _ => by cases n <;> exact h.elim
  | 0, .ask x k, _, _ => trivial
  | n + 1, .ask x k, h, hf => fun v => (h v).bind fun a m hm => hf a m (by omega)
theorem fed_ret {α : Type} (n : Nat) (a : α) : (PT.ret a).Fed n := by cases n <;> trivial
theorem fed_ask {α : Type} {x : Ask} {k : Int → PT α} {n : Nat} (h : ∀ v m, m + 1 ≤ n → (k v).Fed m) : (PT.ask x k).Fed n := by
  cases n with
  | zero => trivial
  | succ n => exact fun v => h v n (Nat.le_refl _)
theorem popT_fed (t : Int) : ∀ (f n : Nat), n < f → (popT t f).Fed n
  | 0, n, h => by omega
  | f + 1, n, h => fed_ask fun v m hm => by
    show PT.Fed _ (ite _ _ _)
    split
    · exact fed_ret _ _
    · exact fed_ask fun v2 m2 hm2 => fed_ask fun v3 m3 hm3 => by
        show PT.Fed _ (ite _ _ _)
        split
        · exact fed_ret _ _
        · exact popT_fed t f m3 (by omega)
theorem pushT_fed (t r : Int) : ∀ (f n : Nat), n < f → (pushT t r f).Fed n
  | 0, n, h => by omega
  | f + 1, n, h => fed_ask fun v m hm => fed_ask fun v2 m2 hm2 => fed_ask fun v3 m3 hm3 => by
        show PT.Fed _ (ite _ _ _)
        split
        · exact fed_ret _ _
        · exact pushT_fed t r f m3 (by omega)
theorem retireL_fed (t r at_ : Int) : ∀ (f n : Nat), n < f → (retireL t r at_ f).Fed n
  | 0, n, h => by omega
  | f + 1, n, h => fed_ask fun v m hm => fed_ask fun v2 m2 hm2 => fed_ask fun v3 m3 hm3 => by
        show PT.Fed _ (ite _ _ _)
        split
        · exact fed_ret _ _
        · exact retireL_fed t r at_ f m3 (by omega)
theorem pinsT_fed (e : Int) : ∀ (n : Nat) (i : Int) (m : Nat), (pinsT e n i).Fed m
  | 0, _, m => fed_ret _ _
  | n + 1, i, m => fed_ask fun v m hm => by
      show PT.Fed _ (ite _ _ _)
      split
      · exact pinsT_fed e n (i + 1) m
      · exact fed_ret _ _
theorem chainT_fed (t : Int) (f : Nat) : ∀ (g : Nat) (r : Int) (n : Nat), n < f → n < g → (chainT t f g r).Fed n
  | 0, _, n, _, h => by omega
  | g + 1, r, n, hf, hg => by
    unfold chainT
    split
    · exact fed_ret _ _
    · exact fed_ask fun v m hm => (pushT_fed t r f m (by omega)).bind fun _ m2 hm2 => chainT_fed t f g _ m2 (by omega) (by omega)
theorem pinT_fed (me : Int) (n : Nat) : (pinT me).Fed n := fed_ask fun _ _ _ => fed_ask fun _ _ _ => fed_ret _ _
theorem advT_fed (t : Int) (f n : Nat) (h : n < f) : (advT t f).Fed n := fed_ask fun e m hm => (pinsT_fed e _ _ m).bind fun ok m2 hm2 => by
  show PT.Fed _ (ite _ _ _)
  split
  · exact fed_ask fun c m3 hm3 => by
      show PT.Fed _ (ite _ _ _)
      split
      · exact fed_ask fun h m4 hm4 => (chainT_fed t f f _ m4 (by omega) (by omega)).bind fun _ m5 _ => fed_ret _ _
      · exact fed_ret _ _
  · exact fed_ret _ _
theorem allocL_fed (t me : Int) (f : Nat) : ∀ (k : Nat) (r : Int) (n : Nat), n < f → (allocL t me f k r).Fed n
  | 0, r, n, _ => fed_ret _ _
  | k + 1, r, n, h => by
    unfold allocL
    split
    · exact (pinT_fed me n).bind fun _ m hm => (advT_fed t f m (by omega)).bind fun _ m2 hm2 => (popT_fed t f m2 (by omega)).bind fun r' m3 hm3 => allocL_fed t me f k r' m3 (by omega)
    · exact fed_ret _ _
theorem epochT_fed (t me kind u : Int) (f n : Nat) (h : n < f) : (epochT t me kind u f).Fed n := by
  unfold epochT
  split
  · exact (pinT_fed me n).bind fun _ _ _ => fed_ret _ _
  split
  · exact PT.Fed.bind (fed_ask fun _ _ _ => fed_ret _ _) fun _ _ _ => fed_ret _ _
  split
  · exact PT.Fed.bind (T := retireT t u f) (fed_ask fun e m hm => retireL_fed t u _ f m (by omega)) fun _ _ _ => fed_ret _ _
  split
  · exact (advT_fed t f n h).bind fun _ _ _ => fed_ret _ _
  split
  · exact ((popT_fed t f n h).bind fun r m hm => allocL_fed t me f 3 r m (by omega)).bind fun _ _ _ => fed_ret _ _
  · exact fed_ret _ _
end Go.Proofs.Ytjokaginolpbeaa
