import Derived.Test.YtjokaginolpbeaaEpochSafePartC
import Derived.Deep.CutRange
import Derived.Laws.EntriesVeiled
import Derived.WalkKit
import Derived.Below
import Derived.Outline
import Derived.Laws.Bits64
import Derived.Test.YtjokaginolpbeaaChecked
import Derived.Test.YtjokaginolpbeaaEpochSafePartB
import Derived.LoopTactic
namespace Go.Proofs.Ytjokaginolpbeaa
open Go.RowKit

/-! access.words. -/
/-- what access.words answers -/
def WordsPost (T C : Int) (q : Nat) (ws' : List Int) (r : ResK) (e : Ending) (w w' : World) : Prop := ∃ (A' : Option Addr) (c' : Nat), e = .returned (.tuple #[.agg #[.int .i64 T, .int .i64 C, .slice A' q c'], .agg #[.int .u64 r.N, .slice none 0 0, .bool false]]) ∧ WordsV w' A' q c' ws' ∧ Ext w w'
set_option maxRecDepth 100000 in
set_option maxHeartbeats 2000000 in
theorem words_any (T C : Int) (A : Option Addr) (q c : Nat) (ws : List Int) (k ce a b : Int) (D : Option Addr) (m cd : Nat) (B : Option Addr) (q2 cb : Nat) (dat : List UInt8) (wd : List Int) (w : World) (hA : WordsV w A q c ws) (hq : q ≤ 1000000) (ha : 0 ≤ a ∧ a < 18446744073709551616) (hb : 0 ≤ b ∧ b < 18446744073709551616) :
  Calls Try.prog 121 #[.agg #[.int .i64 T, .int .i64 C, .slice A q c], .agg #[.int .i64 k, .int .i64 ce, .int .u64 a, .int .u64 b, .slice D m cd, .slice B q2 cb]] w fun e w' => WordsPost T C q (wordsK ws ⟨k, ce, a, b, dat, wd⟩) (wordsR ws ⟨k, ce, a, b, dat, wd⟩) e w w' := by
 have hb0 : ∀ W : World, (Instr.build 59 #[]).run Try.prog W = .ok (.agg #[.int .u64 0, .slice none 0 0, .bool false]) W := fun _ => by kernel_rfl
 have hb1 : ∀ (W : World) (z : Int), (Instr.build 59 #[(0, .int .u64 z)]).run Try.prog W = .ok (.agg #[.int .u64 z, .slice none 0 0, .bool false]) W := fun _ _ => by kernel_rfl
 have hlen := hA.len
 go_enter Try.func121, Try.ntmps121
 go_upto_region 1 with (fail)
 obtain ⟨hW, hE, hG, hO, hP⟩ := boxes4 w (.cells #[.int .i64 T, .int .i64 C, .slice A q c] 45) (.cells #[.int .i64 k, .int .i64 ce, .int .u64 a, .int .u64 b, .slice D m cd, .slice B q2 cb] 33) (.cells #[.int .i64 0, .int .i64 0, .slice none 0 0] 45) (.cells #[.int .u64 0, .slice none 0 0, .bool false] 59)
 generalize (((w.alloc (.cells #[.int .i64 T, .int .i64 C, .slice A q c] 45)).alloc (.cells #[.int .i64 k, .int .i64 ce, .int .u64 a, .int .u64 b, .slice D m cd, .slice B q2 cb] 33)).alloc (.cells #[.int .i64 0, .int .i64 0, .slice none 0 0] 45)).alloc (.cells #[.int .u64 0, .slice none 0 0, .bool false] 59) = W at *
 have hlt : w.heap.size + 1 + 1 + 1 < W.heap.size := (Array.getElem?_eq_some_iff.1 hP).1
 have e0 : W.cell? ⟨w.heap.size, 0, none⟩ = some (.int .i64 T) := by simp [World.cell?, hE]
 have ef0 : W.frozen? ⟨w.heap.size, 0, none⟩ = false := by simp [World.frozen?, hE]
 have e1 : W.cell? ⟨w.heap.size, 1, none⟩ = some (.int .i64 C) := by simp [World.cell?, hE]
 have ef1 : W.frozen? ⟨w.heap.size, 1, none⟩ = false := by simp [World.frozen?, hE]
 have e2 : W.cell? ⟨w.heap.size, 2, none⟩ = some (.slice A q c) := by simp [World.cell?, hE]
 have ef2 : W.frozen? ⟨w.heap.size, 2, none⟩ = false := by simp [World.frozen?, hE]
 have g0 : W.cell? ⟨w.heap.size + 1, 0, none⟩ = some (.int .i64 k) := by simp [World.cell?, hG]
 have g1 : W.cell? ⟨w.heap.size + 1, 1, none⟩ = some (.int .i64 ce) := by simp [World.cell?, hG]
 have g2 : W.cell? ⟨w.heap.size + 1, 2, none⟩ = some (.int .u64 a) := by simp [World.cell?, hG]
 have g3 : W.cell? ⟨w.heap.size + 1, 3, none⟩ = some (.int .u64 b) := by simp [World.cell?, hG]
 have g4 : W.cell? ⟨w.heap.size + 1, 4, none⟩ = some (.slice D m cd) := by simp [World.cell?, hG]
 have g5 : W.cell? ⟨w.heap.size + 1, 5, none⟩ = some (.slice B q2 cb) := by simp [World.cell?, hG]
 have o0 : W.cell? ⟨w.heap.size + 1 + 1, 0, none⟩ = some (.int .i64 0) := by simp [World.cell?, hO]
 have of0 : W.frozen? ⟨w.heap.size + 1 + 1, 0, none⟩ = false := by simp [World.frozen?, hO]
 have o1 : W.cell? ⟨w.heap.size + 1 + 1, 1, none⟩ = some (.int .i64 0) := by simp [World.cell?, hO]
 have of1 : W.frozen? ⟨w.heap.size + 1 + 1, 1, none⟩ = false := by simp [World.frozen?, hO]
 have o2 : W.cell? ⟨w.heap.size + 1 + 1, 2, none⟩ = some (.slice none 0 0) := by simp [World.cell?, hO]
 have of2 : W.frozen? ⟨w.heap.size + 1 + 1, 2, none⟩ = false := by simp [World.frozen?, hO]
 have p0 : W.cell? ⟨w.heap.size + 1 + 1 + 1, 0, none⟩ = some (.int .u64 0) := by simp [World.cell?, hP]
 have pf0 : W.frozen? ⟨w.heap.size + 1 + 1 + 1, 0, none⟩ = false := by simp [World.frozen?, hP]
 have p1 : W.cell? ⟨w.heap.size + 1 + 1 + 1, 1, none⟩ = some (.slice none 0 0) := by simp [World.cell?, hP]
 have pf1 : W.frozen? ⟨w.heap.size + 1 + 1 + 1, 1, none⟩ = false := by simp [World.frozen?, hP]
 have p2 : W.cell? ⟨w.heap.size + 1 + 1 + 1, 2, none⟩ = some (.bool false) := by simp [World.cell?, hP]
 have pf2 : W.frozen? ⟨w.heap.size + 1 + 1 + 1, 2, none⟩ = false := by simp [World.frozen?, hP]
 by_cases hin : ¬ (0 ≤ ce ∧ ce < (q : Int))
 ·have hno : inW ws.length ⟨k, ce, a, b, dat, wd⟩ = false := by
   rw [Bool.eq_false_iff]; intro h; exact hin ⟨(inW_iff.1 h).2.2.1, by rw [← hlen]; exact (inW_iff.1 h).2.2.2⟩
  have hwk : wordsK ws ⟨k, ce, a, b, dat, wd⟩ = ws := by simp [wordsK, hno]
  have hwr : wordsR ws ⟨k, ce, a, b, dat, wd⟩ = ResK.zero := by simp [wordsR, hno]
  have hfin := hW
  clear hE hG hlt
  by_cases hc0 : ce < 0
  ·have hF : Ext w ((((((W.setCell ⟨w.heap.size + 1 + 1, 0, none⟩ (.int .i64 T)).setCell ⟨w.heap.size + 1 + 1, 1, none⟩ (.int .i64 C)).setCell ⟨w.heap.size + 1 + 1, 2, none⟩ (.slice A q c)).setCell ⟨w.heap.size + 1 + 1 + 1, 0, none⟩ (.int .u64 0)).setCell ⟨w.heap.size + 1 + 1 + 1, 1, none⟩ (.slice none 0 0)).setCell ⟨w.heap.size + 1 + 1 + 1, 2, none⟩ (.bool false)) := setAll_ext (g := w.heap.size + 1 + 1 + 1) (vs := [.int .u64 0, .slice none 0 0, .bool false]) (i := 0) (setAll_ext (g := w.heap.size + 1 + 1) (vs := [.int .i64 T, .int .i64 C, .slice A q c]) (i := 0) hfin (by omega)) (by omega)
   have hfO : ((((((W.setCell ⟨w.heap.size + 1 + 1, 0, none⟩ (.int .i64 T)).setCell ⟨w.heap.size + 1 + 1, 1, none⟩ (.int .i64 C)).setCell ⟨w.heap.size + 1 + 1, 2, none⟩ (.slice A q c)).setCell ⟨w.heap.size + 1 + 1 + 1, 0, none⟩ (.int .u64 0)).setCell ⟨w.heap.size + 1 + 1 + 1, 1, none⟩ (.slice none 0 0)).setCell ⟨w.heap.size + 1 + 1 + 1, 2, none⟩ (.bool false)).heap[w.heap.size + 1 + 1]? = some (.cells #[.int .i64 T, .int .i64 C, .slice A q c] 45 (0, 0)) := (setAll_other (g := w.heap.size + 1 + 1 + 1) (by omega) [.int .u64 0, .slice none 0 0, .bool false] 0 (setAll (w.heap.size + 1 + 1) 0 [.int .i64 T, .int .i64 C, .slice A q c] W)).trans (setAll_all (vs := [.int .i64 T, .int .i64 C, .slice A q c]) hO rfl)
   have hfP : ((((((W.setCell ⟨w.heap.size + 1 + 1, 0, none⟩ (.int .i64 T)).setCell ⟨w.heap.size + 1 + 1, 1, none⟩ (.int .i64 C)).setCell ⟨w.heap.size + 1 + 1, 2, none⟩ (.slice A q c)).setCell ⟨w.heap.size + 1 + 1 + 1, 0, none⟩ (.int .u64 0)).setCell ⟨w.heap.size + 1 + 1 + 1, 1, none⟩ (.slice none 0 0)).setCell ⟨w.heap.size + 1 + 1 + 1, 2, none⟩ (.bool false)).heap[w.heap.size + 1 + 1 + 1]? = some (.cells #[.int .u64 0, .slice none 0 0, .bool false] 59 (0, 0)) := setAll_all (vs := [.int .u64 0, .slice none 0 0, .bool false]) ((setAll_other (g := w.heap.size + 1 + 1) (by omega) [.int .i64 T, .int .i64 C, .slice A q c] 0 W).trans hP) rfl
   clear hO hP
   go_wp2
   generalize ((((((W.setCell ⟨w.heap.size + 1 + 1, 0, none⟩ (.int .i64 T)).setCell ⟨w.heap.size + 1 + 1, 1, none⟩ (.int .i64 C)).setCell ⟨w.heap.size + 1 + 1, 2, none⟩ (.slice A q c)).setCell ⟨w.heap.size + 1 + 1 + 1, 0, none⟩ (.int .u64 0)).setCell ⟨w.heap.size + 1 + 1 + 1, 1, none⟩ (.slice none 0 0)).setCell ⟨w.heap.size + 1 + 1 + 1, 2, none⟩ (.bool false)) = wf at *
   clear o0 o1 o2 p0 p1 p2
   have o0 : wf.cell? ⟨w.heap.size + 1 + 1, 0, none⟩ = some (.int .i64 T) := by simp [World.cell?, hfO]
   have o1 : wf.cell? ⟨w.heap.size + 1 + 1, 1, none⟩ = some (.int .i64 C) := by simp [World.cell?, hfO]
   have o2 : wf.cell? ⟨w.heap.size + 1 + 1, 2, none⟩ = some (.slice A q c) := by simp [World.cell?, hfO]
   have p0 : wf.cell? ⟨w.heap.size + 1 + 1 + 1, 0, none⟩ = some (.int .u64 0) := by simp [World.cell?, hfP]
   have p1 : wf.cell? ⟨w.heap.size + 1 + 1 + 1, 1, none⟩ = some (.slice none 0 0) := by simp [World.cell?, hfP]
   have p2 : wf.cell? ⟨w.heap.size + 1 + 1 + 1, 2, none⟩ = some (.bool false) := by simp [World.cell?, hfP]
   refine bodyPost_ret (v := .tuple #[.agg #[.int .i64 T, .int .i64 C, .slice A q c], .agg #[.int .u64 0, .slice none 0 0, .bool false]]) (by simp [results, Try.results121, go_sem, o0, o1, o2, p0, p1, p2]) rfl ?_
   try rw [hwk]
   try rw [hwr]
   exact ⟨A, c, rfl, hA.ext hF, hF⟩
  ·have hc1 : (q : Int) ≤ ce := by omega
   have hF : Ext w ((((((W.setCell ⟨w.heap.size + 1 + 1, 0, none⟩ (.int .i64 T)).setCell ⟨w.heap.size + 1 + 1, 1, none⟩ (.int .i64 C)).setCell ⟨w.heap.size + 1 + 1, 2, none⟩ (.slice A q c)).setCell ⟨w.heap.size + 1 + 1 + 1, 0, none⟩ (.int .u64 0)).setCell ⟨w.heap.size + 1 + 1 + 1, 1, none⟩ (.slice none 0 0)).setCell ⟨w.heap.size + 1 + 1 + 1, 2, none⟩ (.bool false)) := setAll_ext (g := w.heap.size + 1 + 1 + 1) (vs := [.int .u64 0, .slice none 0 0, .bool false]) (i := 0) (setAll_ext (g := w.heap.size + 1 + 1) (vs := [.int .i64 T, .int .i64 C, .slice A q c]) (i := 0) hfin (by omega)) (by omega)
   have hfO : ((((((W.setCell ⟨w.heap.size + 1 + 1, 0, none⟩ (.int .i64 T)).setCell ⟨w.heap.size + 1 + 1, 1, none⟩ (.int .i64 C)).setCell ⟨w.heap.size + 1 + 1, 2, none⟩ (.slice A q c)).setCell ⟨w.heap.size + 1 + 1 + 1, 0, none⟩ (.int .u64 0)).setCell ⟨w.heap.size + 1 + 1 + 1, 1, none⟩ (.slice none 0 0)).setCell ⟨w.heap.size + 1 + 1 + 1, 2, none⟩ (.bool false)).heap[w.heap.size + 1 + 1]? = some (.cells #[.int .i64 T, .int .i64 C, .slice A q c] 45 (0, 0)) := (setAll_other (g := w.heap.size + 1 + 1 + 1) (by omega) [.int .u64 0, .slice none 0 0, .bool false] 0 (setAll (w.heap.size + 1 + 1) 0 [.int .i64 T, .int .i64 C, .slice A q c] W)).trans (setAll_all (vs := [.int .i64 T, .int .i64 C, .slice A q c]) hO rfl)
   have hfP : ((((((W.setCell ⟨w.heap.size + 1 + 1, 0, none⟩ (.int .i64 T)).setCell ⟨w.heap.size + 1 + 1, 1, none⟩ (.int .i64 C)).setCell ⟨w.heap.size + 1 + 1, 2, none⟩ (.slice A q c)).setCell ⟨w.heap.size + 1 + 1 + 1, 0, none⟩ (.int .u64 0)).setCell ⟨w.heap.size + 1 + 1 + 1, 1, none⟩ (.slice none 0 0)).setCell ⟨w.heap.size + 1 + 1 + 1, 2, none⟩ (.bool false)).heap[w.heap.size + 1 + 1 + 1]? = some (.cells #[.int .u64 0, .slice none 0 0, .bool false] 59 (0, 0)) := setAll_all (vs := [.int .u64 0, .slice none 0 0, .bool false]) ((setAll_other (g := w.heap.size + 1 + 1) (by omega) [.int .i64 T, .int .i64 C, .slice A q c] 0 W).trans hP) rfl
   clear hO hP
   go_wp2
   generalize ((((((W.setCell ⟨w.heap.size + 1 + 1, 0, none⟩ (.int .i64 T)).setCell ⟨w.heap.size + 1 + 1, 1, none⟩ (.int .i64 C)).setCell ⟨w.heap.size + 1 + 1, 2, none⟩ (.slice A q c)).setCell ⟨w.heap.size + 1 + 1 + 1, 0, none⟩ (.int .u64 0)).setCell ⟨w.heap.size + 1 + 1 + 1, 1, none⟩ (.slice none 0 0)).setCell ⟨w.heap.size + 1 + 1 + 1, 2, none⟩ (.bool false)) = wf at *
   clear o0 o1 o2 p0 p1 p2
   have o0 : wf.cell? ⟨w.heap.size + 1 + 1, 0, none⟩ = some (.int .i64 T) := by simp [World.cell?, hfO]
   have o1 : wf.cell? ⟨w.heap.size + 1 + 1, 1, none⟩ = some (.int .i64 C) := by simp [World.cell?, hfO]
   have o2 : wf.cell? ⟨w.heap.size + 1 + 1, 2, none⟩ = some (.slice A q c) := by simp [World.cell?, hfO]
   have p0 : wf.cell? ⟨w.heap.size + 1 + 1 + 1, 0, none⟩ = some (.int .u64 0) := by simp [World.cell?, hfP]
   have p1 : wf.cell? ⟨w.heap.size + 1 + 1 + 1, 1, none⟩ = some (.slice none 0 0) := by simp [World.cell?, hfP]
   have p2 : wf.cell? ⟨w.heap.size + 1 + 1 + 1, 2, none⟩ = some (.bool false) := by simp [World.cell?, hfP]
   refine bodyPost_ret (v := .tuple #[.agg #[.int .i64 T, .int .i64 C, .slice A q c], .agg #[.int .u64 0, .slice none 0 0, .bool false]]) (by simp [results, Try.results121, go_sem, o0, o1, o2, p0, p1, p2]) rfl ?_
   try rw [hwk]
   try rw [hwr]
   exact ⟨A, c, rfl, hA.ext hF, hF⟩
 ·obtain ⟨hc0, hc1⟩ := Classical.not_not.1 hin
  have hc0' : ¬ ce < 0 := by omega
  have hc1' : ¬ (q : Int) ≤ ce := by omega
  obtain ⟨i, rfl⟩ := Int.eq_ofNat_of_zero_le hc0
  have hiq : i < q := by omega
  have hil : i < ws.length := by omega
  obtain ⟨a0, rfl, hac, hr1, hr2⟩ := hA.at hiq
  have hac' := hW.cell hac
  generalize hold : ws.getD i 0 = old at *
  go_upto_region 4 with (fail)
  go_wp2_with fail
  refine (turns_any W).mono ?_
  rintro e w1 ⟨rfl, hT, hx1⟩
  replace hE := heap_ext hE hx1
  replace hG := heap_ext hG hx1
  replace hO := heap_ext hO hx1
  replace hP := heap_ext hP hx1
  replace hW := hW.trans hx1
  have hlt1 : W.heap.size < w1.heap.size := (Array.getElem?_eq_some_iff.1 hT).1
  clear hac' hac e0 e1 e2 ef0 ef1 ef2 g0 g1 g2 g3 g4 g5 o0 o1 o2 of0 of1 of2 p0 p1 p2 pf0 pf1 pf2 hx1
  generalize hgT : W.heap.size = gT at *
  have HE := Lib.hid hE
  have HG := Lib.hid hG
  have HO := Lib.hid hO
  have HP := Lib.hid hP
  have HT := Lib.hid hT
  have HLT := Lib.hid hlt
  clear hE hG hO hP hT hgT hlt1 hlt
  go_wp2
  go_loopw [32, 8] (fun iv t8 wr => Ext w1 wr ∧ ∃ j : Nat, iv = .int .i64 (j : Int) ∧ j ≤ 5 ∧ ∀ x : Nat, x < j → k ≠ (x : Int)) (fun iv _ _ => 5 - (intOf iv).toNat)
  case atStart => exact ⟨Ext.refl _, 0, rfl, by omega, fun x hx => absurd hx (Nat.not_lt_zero _)⟩
  case round =>
   obtain ⟨hx, j, rfl, hj, hkj⟩ := hrel
   have hTr := heap_ext HT.out hx
   have hEr := heap_ext HE.out hx
   have hGr := heap_ext HG.out hx
   have hOr := heap_ext HO.out hx
   have hPr := heap_ext HP.out hx
   have hWr := hW.trans hx
   have hlr : gT < wr.heap.size := (Array.getElem?_eq_some_iff.1 hTr).1
   rcases Nat.lt_or_ge j 5 with hj5 | hj5
   ·obtain ⟨t0, t1⟩ := tab_at hTr hj5
    have hcF := call_all hj5
    have htF := fun V => turn_all hj5 old k (i : Int) a b D m cd B q2 cb V
    generalize fT j = F at *
    have hj5I : (j : Int) < 5 := by omega
    go_upto_region 7 with (fail)
    have hx2 : Ext wr (wr.alloc (.cells #[.int .i64 (j : Int), .func (.func F) #[] #[]] 181)) := (Below.refl _ wr).alloc (Nat.le_refl _) _
    have hB := heap_alloc_new wr (.cells #[.int .i64 (j : Int), .func (.func F) #[] #[]] 181)
    replace hEr := heap_ext hEr hx2
    replace hGr := heap_ext hGr hx2
    replace hOr := heap_ext hOr hx2
    replace hPr := heap_ext hPr hx2
    replace hWr := hWr.trans hx2
    replace hx := hx.trans hx2
    have hlr2 : gT < wr.heap.size := hlr
    clear t0 t1 hTr
    generalize wr.alloc (.cells #[.int .i64 (j : Int), .func (.func F) #[] #[]] 181) = V at *
    generalize wr.heap.size = gV at *
    clear hx2
    have b0 : V.cell? ⟨gV, 0, none⟩ = some (.int .i64 (j : Int)) := by simp [World.cell?, hB]
    have b1 : V.cell? ⟨gV, 1, none⟩ = some (.func (.func F) #[] #[]) := by simp [World.cell?, hB]
    have e0 : V.cell? ⟨w.heap.size, 0, none⟩ = some (.int .i64 T) := by simp [World.cell?, hEr]
    have ef0 : V.frozen? ⟨w.heap.size, 0, none⟩ = false := by simp [World.frozen?, hEr]
    have e1 : V.cell? ⟨w.heap.size, 1, none⟩ = some (.int .i64 C) := by simp [World.cell?, hEr]
    have ef1 : V.frozen? ⟨w.heap.size, 1, none⟩ = false := by simp [World.frozen?, hEr]
    have e2 : V.cell? ⟨w.heap.size, 2, none⟩ = some (.slice (some a0) q c) := by simp [World.cell?, hEr]
    have ef2 : V.frozen? ⟨w.heap.size, 2, none⟩ = false := by simp [World.frozen?, hEr]
    have g0 : V.cell? ⟨w.heap.size + 1, 0, none⟩ = some (.int .i64 k) := by simp [World.cell?, hGr]
    have g1 : V.cell? ⟨w.heap.size + 1, 1, none⟩ = some (.int .i64 (i : Int)) := by simp [World.cell?, hGr]
    have g2 : V.cell? ⟨w.heap.size + 1, 2, none⟩ = some (.int .u64 a) := by simp [World.cell?, hGr]
    have g3 : V.cell? ⟨w.heap.size + 1, 3, none⟩ = some (.int .u64 b) := by simp [World.cell?, hGr]
    have g4 : V.cell? ⟨w.heap.size + 1, 4, none⟩ = some (.slice D m cd) := by simp [World.cell?, hGr]
    have g5 : V.cell? ⟨w.heap.size + 1, 5, none⟩ = some (.slice B q2 cb) := by simp [World.cell?, hGr]
    have o0 : V.cell? ⟨w.heap.size + 1 + 1, 0, none⟩ = some (.int .i64 0) := by simp [World.cell?, hOr]
    have of0 : V.frozen? ⟨w.heap.size + 1 + 1, 0, none⟩ = false := by simp [World.frozen?, hOr]
    have o1 : V.cell? ⟨w.heap.size + 1 + 1, 1, none⟩ = some (.int .i64 0) := by simp [World.cell?, hOr]
    have of1 : V.frozen? ⟨w.heap.size + 1 + 1, 1, none⟩ = false := by simp [World.frozen?, hOr]
    have o2 : V.cell? ⟨w.heap.size + 1 + 1, 2, none⟩ = some (.slice none 0 0) := by simp [World.cell?, hOr]
    have of2 : V.frozen? ⟨w.heap.size + 1 + 1, 2, none⟩ = false := by simp [World.frozen?, hOr]
    have p0 : V.cell? ⟨w.heap.size + 1 + 1 + 1, 0, none⟩ = some (.int .u64 0) := by simp [World.cell?, hPr]
    have pf0 : V.frozen? ⟨w.heap.size + 1 + 1 + 1, 0, none⟩ = false := by simp [World.frozen?, hPr]
    have p1 : V.cell? ⟨w.heap.size + 1 + 1 + 1, 1, none⟩ = some (.slice none 0 0) := by simp [World.cell?, hPr]
    have pf1 : V.frozen? ⟨w.heap.size + 1 + 1 + 1, 1, none⟩ = false := by simp [World.frozen?, hPr]
    have p2 : V.cell? ⟨w.heap.size + 1 + 1 + 1, 2, none⟩ = some (.bool false) := by simp [World.cell?, hPr]
    have pf2 : V.frozen? ⟨w.heap.size + 1 + 1 + 1, 2, none⟩ = false := by simp [World.frozen?, hPr]
    by_cases hk : k = (j : Int)
    ·subst hk
     have hyes : inW ws.length ⟨(j : Int), (i : Int), a, b, dat, wd⟩ = true := inW_iff.2 ⟨by simp only; omega, by simp only; omega, by simp only; omega, by simp only; omega⟩
     have hwk : wordsK ws ⟨(j : Int), (i : Int), a, b, dat, wd⟩ = ws.set i (turnX (j : Int) old a b) := by
      unfold wordsK; rw [if_pos hyes]
      show ws.set (Int.toNat (i : Int)) (turnX (j : Int) (ws.getD (Int.toNat (i : Int)) 0) a b) = _
      rw [Int.toNat_natCast, hold]
     have hwr : wordsR ws ⟨(j : Int), (i : Int), a, b, dat, wd⟩ = ⟨turnN (j : Int) old a, [], false⟩ := by
      unfold wordsR; rw [if_pos hyes]
      show (⟨turnN (j : Int) (ws.getD (Int.toNat (i : Int)) 0) a, [], false⟩ : ResK) = _
      rw [Int.toNat_natCast, hold]
     clear hyes
     go_wp2_with fail
     refine (htF V).mono ?_
     rintro e w3 ⟨rfl, hx3⟩
     replace hEr := heap_ext hEr hx3
     replace hGr := heap_ext hGr hx3
     replace hOr := heap_ext hOr hx3
     replace hPr := heap_ext hPr hx3
     replace hWr := hWr.trans hx3
     clear e0 e1 e2 ef0 ef1 ef2 g0 g1 g2 g3 g4 g5 o0 o1 o2 of0 of1 of2 p0 p1 p2 pf0 pf1 pf2
     clear b0 b1 hB
     have hnr := turnX_rng (kind := (j : Int)) (b := b) ⟨hr1, hr2⟩ ha hb
     generalize turnX (j : Int) old a b = nx at *
     generalize turnN (j : Int) old a = nn at *
     clear htF hcF
     by_cases hne : nx = old
     ·have hset : ws.set i nx = ws := by
       rw [hne, ← hold]
       refine List.ext_getElem? fun x => ?_
       by_cases hxi : x = i
       ·subst hxi
        rw [List.getElem?_set_self hil, List.getElem?_eq_getElem hil]; simp [List.getD_eq_getElem?_getD, hil]
       ·rw [List.getElem?_set_ne (fun e => hxi e.symm)]
      rw [hset] at hwk
      subst hne
      have e0 : w3.cell? ⟨w.heap.size, 0, none⟩ = some (.int .i64 T) := by simp [World.cell?, hEr]
      have ef0 : w3.frozen? ⟨w.heap.size, 0, none⟩ = false := by simp [World.frozen?, hEr]
      have e1 : w3.cell? ⟨w.heap.size, 1, none⟩ = some (.int .i64 C) := by simp [World.cell?, hEr]
      have ef1 : w3.frozen? ⟨w.heap.size, 1, none⟩ = false := by simp [World.frozen?, hEr]
      have e2 : w3.cell? ⟨w.heap.size, 2, none⟩ = some (.slice (some a0) q c) := by simp [World.cell?, hEr]
      have ef2 : w3.frozen? ⟨w.heap.size, 2, none⟩ = false := by simp [World.frozen?, hEr]
      have g0 : w3.cell? ⟨w.heap.size + 1, 0, none⟩ = some (.int .i64 (j : Int)) := by simp [World.cell?, hGr]
      have g1 : w3.cell? ⟨w.heap.size + 1, 1, none⟩ = some (.int .i64 (i : Int)) := by simp [World.cell?, hGr]
      have g2 : w3.cell? ⟨w.heap.size + 1, 2, none⟩ = some (.int .u64 a) := by simp [World.cell?, hGr]
      have g3 : w3.cell? ⟨w.heap.size + 1, 3, none⟩ = some (.int .u64 b) := by simp [World.cell?, hGr]
      have g4 : w3.cell? ⟨w.heap.size + 1, 4, none⟩ = some (.slice D m cd) := by simp [World.cell?, hGr]
      have g5 : w3.cell? ⟨w.heap.size + 1, 5, none⟩ = some (.slice B q2 cb) := by simp [World.cell?, hGr]
      have o0 : w3.cell? ⟨w.heap.size + 1 + 1, 0, none⟩ = some (.int .i64 0) := by simp [World.cell?, hOr]
      have of0 : w3.frozen? ⟨w.heap.size + 1 + 1, 0, none⟩ = false := by simp [World.frozen?, hOr]
      have o1 : w3.cell? ⟨w.heap.size + 1 + 1, 1, none⟩ = some (.int .i64 0) := by simp [World.cell?, hOr]
      have of1 : w3.frozen? ⟨w.heap.size + 1 + 1, 1, none⟩ = false := by simp [World.frozen?, hOr]
      have o2 : w3.cell? ⟨w.heap.size + 1 + 1, 2, none⟩ = some (.slice none 0 0) := by simp [World.cell?, hOr]
      have of2 : w3.frozen? ⟨w.heap.size + 1 + 1, 2, none⟩ = false := by simp [World.frozen?, hOr]
      have p0 : w3.cell? ⟨w.heap.size + 1 + 1 + 1, 0, none⟩ = some (.int .u64 0) := by simp [World.cell?, hPr]
      have pf0 : w3.frozen? ⟨w.heap.size + 1 + 1 + 1, 0, none⟩ = false := by simp [World.frozen?, hPr]
      have p1 : w3.cell? ⟨w.heap.size + 1 + 1 + 1, 1, none⟩ = some (.slice none 0 0) := by simp [World.cell?, hPr]
      have pf1 : w3.frozen? ⟨w.heap.size + 1 + 1 + 1, 1, none⟩ = false := by simp [World.frozen?, hPr]
      have p2 : w3.cell? ⟨w.heap.size + 1 + 1 + 1, 2, none⟩ = some (.bool false) := by simp [World.cell?, hPr]
      have pf2 : w3.frozen? ⟨w.heap.size + 1 + 1 + 1, 2, none⟩ = false := by simp [World.frozen?, hPr]
      clear hEr hGr
      have hF : Ext w ((((((w3.setCell ⟨w.heap.size + 1 + 1, 0, none⟩ (.int .i64 T)).setCell ⟨w.heap.size + 1 + 1, 1, none⟩ (.int .i64 C)).setCell ⟨w.heap.size + 1 + 1, 2, none⟩ (.slice (some a0) q c)).setCell ⟨w.heap.size + 1 + 1 + 1, 0, none⟩ (.int .u64 nn)).setCell ⟨w.heap.size + 1 + 1 + 1, 1, none⟩ (.slice none 0 0)).setCell ⟨w.heap.size + 1 + 1 + 1, 2, none⟩ (.bool false)) := setAll_ext (g := w.heap.size + 1 + 1 + 1) (vs := [.int .u64 nn, .slice none 0 0, .bool false]) (i := 0) (setAll_ext (g := w.heap.size + 1 + 1) (vs := [.int .i64 T, .int .i64 C, .slice (some a0) q c]) (i := 0) hWr (by omega)) (by omega)
      have hfO : ((((((w3.setCell ⟨w.heap.size + 1 + 1, 0, none⟩ (.int .i64 T)).setCell ⟨w.heap.size + 1 + 1, 1, none⟩ (.int .i64 C)).setCell ⟨w.heap.size + 1 + 1, 2, none⟩ (.slice (some a0) q c)).setCell ⟨w.heap.size + 1 + 1 + 1, 0, none⟩ (.int .u64 nn)).setCell ⟨w.heap.size + 1 + 1 + 1, 1, none⟩ (.slice none 0 0)).setCell ⟨w.heap.size + 1 + 1 + 1, 2, none⟩ (.bool false)).heap[w.heap.size + 1 + 1]? = some (.cells #[.int .i64 T, .int .i64 C, .slice (some a0) q c] 45 (0, 0)) := (setAll_other (g := w.heap.size + 1 + 1 + 1) (by omega) [.int .u64 nn, .slice none 0 0, .bool false] 0 (setAll (w.heap.size + 1 + 1) 0 [.int .i64 T, .int .i64 C, .slice (some a0) q c] w3)).trans (setAll_all (vs := [.int .i64 T, .int .i64 C, .slice (some a0) q c]) hOr rfl)
      have hfP : ((((((w3.setCell ⟨w.heap.size + 1 + 1, 0, none⟩ (.int .i64 T)).setCell ⟨w.heap.size + 1 + 1, 1, none⟩ (.int .i64 C)).setCell ⟨w.heap.size + 1 + 1, 2, none⟩ (.slice (some a0) q c)).setCell ⟨w.heap.size + 1 + 1 + 1, 0, none⟩ (.int .u64 nn)).setCell ⟨w.heap.size + 1 + 1 + 1, 1, none⟩ (.slice none 0 0)).setCell ⟨w.heap.size + 1 + 1 + 1, 2, none⟩ (.bool false)).heap[w.heap.size + 1 + 1 + 1]? = some (.cells #[.int .u64 nn, .slice none 0 0, .bool false] 59 (0, 0)) := setAll_all (vs := [.int .u64 nn, .slice none 0 0, .bool false]) ((setAll_other (g := w.heap.size + 1 + 1) (by omega) [.int .i64 T, .int .i64 C, .slice (some a0) q c] 0 w3).trans hPr) rfl
      clear hOr hPr
      go_wp2
      generalize ((((((w3.setCell ⟨w.heap.size + 1 + 1, 0, none⟩ (.int .i64 T)).setCell ⟨w.heap.size + 1 + 1, 1, none⟩ (.int .i64 C)).setCell ⟨w.heap.size + 1 + 1, 2, none⟩ (.slice (some a0) q c)).setCell ⟨w.heap.size + 1 + 1 + 1, 0, none⟩ (.int .u64 nn)).setCell ⟨w.heap.size + 1 + 1 + 1, 1, none⟩ (.slice none 0 0)).setCell ⟨w.heap.size + 1 + 1 + 1, 2, none⟩ (.bool false)) = wf at *
      clear o0 o1 o2 p0 p1 p2
      have o0 : wf.cell? ⟨w.heap.size + 1 + 1, 0, none⟩ = some (.int .i64 T) := by simp [World.cell?, hfO]
      have o1 : wf.cell? ⟨w.heap.size + 1 + 1, 1, none⟩ = some (.int .i64 C) := by simp [World.cell?, hfO]
      have o2 : wf.cell? ⟨w.heap.size + 1 + 1, 2, none⟩ = some (.slice (some a0) q c) := by simp [World.cell?, hfO]
      have p0 : wf.cell? ⟨w.heap.size + 1 + 1 + 1, 0, none⟩ = some (.int .u64 nn) := by simp [World.cell?, hfP]
      have p1 : wf.cell? ⟨w.heap.size + 1 + 1 + 1, 1, none⟩ = some (.slice none 0 0) := by simp [World.cell?, hfP]
      have p2 : wf.cell? ⟨w.heap.size + 1 + 1 + 1, 2, none⟩ = some (.bool false) := by simp [World.cell?, hfP]
      refine bodyPost_ret (v := .tuple #[.agg #[.int .i64 T, .int .i64 C, .slice (some a0) q c], .agg #[.int .u64 nn, .slice none 0 0, .bool false]]) (by simp [results, Try.results121, go_sem, o0, o1, o2, p0, p1, p2]) rfl ?_
      try rw [hwk]
      try rw [hwr]
      exact ⟨some a0, c, rfl, hA.ext hF, hF⟩
     ·have hne' : (nx != old) = true := by simp [hne]
      have e0 : w3.cell? ⟨w.heap.size, 0, none⟩ = some (.int .i64 T) := by simp [World.cell?, hEr]
      have ef0 : w3.frozen? ⟨w.heap.size, 0, none⟩ = false := by simp [World.frozen?, hEr]
      have e1 : w3.cell? ⟨w.heap.size, 1, none⟩ = some (.int .i64 C) := by simp [World.cell?, hEr]
      have ef1 : w3.frozen? ⟨w.heap.size, 1, none⟩ = false := by simp [World.frozen?, hEr]
      have e2 : w3.cell? ⟨w.heap.size, 2, none⟩ = some (.slice (some a0) q c) := by simp [World.cell?, hEr]
      have ef2 : w3.frozen? ⟨w.heap.size, 2, none⟩ = false := by simp [World.frozen?, hEr]
      have g0 : w3.cell? ⟨w.heap.size + 1, 0, none⟩ = some (.int .i64 (j : Int)) := by simp [World.cell?, hGr]
      have g1 : w3.cell? ⟨w.heap.size + 1, 1, none⟩ = some (.int .i64 (i : Int)) := by simp [World.cell?, hGr]
      have g2 : w3.cell? ⟨w.heap.size + 1, 2, none⟩ = some (.int .u64 a) := by simp [World.cell?, hGr]
      have g3 : w3.cell? ⟨w.heap.size + 1, 3, none⟩ = some (.int .u64 b) := by simp [World.cell?, hGr]
      have g4 : w3.cell? ⟨w.heap.size + 1, 4, none⟩ = some (.slice D m cd) := by simp [World.cell?, hGr]
      have g5 : w3.cell? ⟨w.heap.size + 1, 5, none⟩ = some (.slice B q2 cb) := by simp [World.cell?, hGr]
      have o0 : w3.cell? ⟨w.heap.size + 1 + 1, 0, none⟩ = some (.int .i64 0) := by simp [World.cell?, hOr]
      have of0 : w3.frozen? ⟨w.heap.size + 1 + 1, 0, none⟩ = false := by simp [World.frozen?, hOr]
      have o1 : w3.cell? ⟨w.heap.size + 1 + 1, 1, none⟩ = some (.int .i64 0) := by simp [World.cell?, hOr]
      have of1 : w3.frozen? ⟨w.heap.size + 1 + 1, 1, none⟩ = false := by simp [World.frozen?, hOr]
      have o2 : w3.cell? ⟨w.heap.size + 1 + 1, 2, none⟩ = some (.slice none 0 0) := by simp [World.cell?, hOr]
      have of2 : w3.frozen? ⟨w.heap.size + 1 + 1, 2, none⟩ = false := by simp [World.frozen?, hOr]
      have p0 : w3.cell? ⟨w.heap.size + 1 + 1 + 1, 0, none⟩ = some (.int .u64 0) := by simp [World.cell?, hPr]
      have pf0 : w3.frozen? ⟨w.heap.size + 1 + 1 + 1, 0, none⟩ = false := by simp [World.frozen?, hPr]
      have p1 : w3.cell? ⟨w.heap.size + 1 + 1 + 1, 1, none⟩ = some (.slice none 0 0) := by simp [World.cell?, hPr]
      have pf1 : w3.frozen? ⟨w.heap.size + 1 + 1 + 1, 1, none⟩ = false := by simp [World.frozen?, hPr]
      have p2 : w3.cell? ⟨w.heap.size + 1 + 1 + 1, 2, none⟩ = some (.bool false) := by simp [World.cell?, hPr]
      have pf2 : w3.frozen? ⟨w.heap.size + 1 + 1 + 1, 2, none⟩ = false := by simp [World.frozen?, hPr]
      go_wp2_with fail
      refine (clone_words (some a0) q c ws w3 (hA.ext hWr) hq (by omega)).mono ?_
      rintro e w4 ⟨gN, cN, rfl, hown, hx4⟩
      have hl3 : w.heap.size + 1 + 1 + 1 < w3.heap.size := (Array.getElem?_eq_some_iff.1 hPr).1
      replace hEr := heap_ext hEr hx4
      replace hGr := heap_ext hGr hx4
      replace hOr := heap_ext hOr hx4
      replace hPr := heap_ext hPr hx4
      replace hWr := hWr.trans hx4
      clear e0 e1 e2 ef0 ef1 ef2 g0 g1 g2 g3 g4 g5 o0 o1 o2 of0 of1 of2 p0 p1 p2 pf0 pf1 pf2
      have e0 : w4.cell? ⟨w.heap.size, 0, none⟩ = some (.int .i64 T) := by simp [World.cell?, hEr]
      have ef0 : w4.frozen? ⟨w.heap.size, 0, none⟩ = false := by simp [World.frozen?, hEr]
      have e1 : w4.cell? ⟨w.heap.size, 1, none⟩ = some (.int .i64 C) := by simp [World.cell?, hEr]
      have ef1 : w4.frozen? ⟨w.heap.size, 1, none⟩ = false := by simp [World.frozen?, hEr]
      have e2 : w4.cell? ⟨w.heap.size, 2, none⟩ = some (.slice (some a0) q c) := by simp [World.cell?, hEr]
      have ef2 : w4.frozen? ⟨w.heap.size, 2, none⟩ = false := by simp [World.frozen?, hEr]
      have g0 : w4.cell? ⟨w.heap.size + 1, 0, none⟩ = some (.int .i64 (j : Int)) := by simp [World.cell?, hGr]
      have g1 : w4.cell? ⟨w.heap.size + 1, 1, none⟩ = some (.int .i64 (i : Int)) := by simp [World.cell?, hGr]
      have g2 : w4.cell? ⟨w.heap.size + 1, 2, none⟩ = some (.int .u64 a) := by simp [World.cell?, hGr]
      have g3 : w4.cell? ⟨w.heap.size + 1, 3, none⟩ = some (.int .u64 b) := by simp [World.cell?, hGr]
      have g4 : w4.cell? ⟨w.heap.size + 1, 4, none⟩ = some (.slice D m cd) := by simp [World.cell?, hGr]
      have g5 : w4.cell? ⟨w.heap.size + 1, 5, none⟩ = some (.slice B q2 cb) := by simp [World.cell?, hGr]
      have o0 : w4.cell? ⟨w.heap.size + 1 + 1, 0, none⟩ = some (.int .i64 0) := by simp [World.cell?, hOr]
      have of0 : w4.frozen? ⟨w.heap.size + 1 + 1, 0, none⟩ = false := by simp [World.frozen?, hOr]
      have o1 : w4.cell? ⟨w.heap.size + 1 + 1, 1, none⟩ = some (.int .i64 0) := by simp [World.cell?, hOr]
      have of1 : w4.frozen? ⟨w.heap.size + 1 + 1, 1, none⟩ = false := by simp [World.frozen?, hOr]
      have o2 : w4.cell? ⟨w.heap.size + 1 + 1, 2, none⟩ = some (.slice none 0 0) := by simp [World.cell?, hOr]
      have of2 : w4.frozen? ⟨w.heap.size + 1 + 1, 2, none⟩ = false := by simp [World.frozen?, hOr]
      have p0 : w4.cell? ⟨w.heap.size + 1 + 1 + 1, 0, none⟩ = some (.int .u64 0) := by simp [World.cell?, hPr]
      have pf0 : w4.frozen? ⟨w.heap.size + 1 + 1 + 1, 0, none⟩ = false := by simp [World.frozen?, hPr]
      have p1 : w4.cell? ⟨w.heap.size + 1 + 1 + 1, 1, none⟩ = some (.slice none 0 0) := by simp [World.cell?, hPr]
      have pf1 : w4.frozen? ⟨w.heap.size + 1 + 1 + 1, 1, none⟩ = false := by simp [World.frozen?, hPr]
      have p2 : w4.cell? ⟨w.heap.size + 1 + 1 + 1, 2, none⟩ = some (.bool false) := by simp [World.cell?, hPr]
      have pf2 : w4.frozen? ⟨w.heap.size + 1 + 1 + 1, 2, none⟩ = false := by simp [World.frozen?, hPr]
      obtain ⟨hgN1, hgN2⟩ := hown.base
      have hne0 : ¬ w.heap.size = gN := by omega
      go_upto_region 11 with (fail)
      have hE5 : (w4.setCell ⟨w.heap.size, 2, none⟩ (.slice (some ⟨gN, 0, none⟩) q cN)).heap[w.heap.size]? = some (.cells #[.int .i64 T, .int .i64 C, .slice (some ⟨gN, 0, none⟩) q cN] 45 (0, 0)) := heap_setCell_at hEr
      have hG5 : (w4.setCell ⟨w.heap.size, 2, none⟩ (.slice (some ⟨gN, 0, none⟩) q cN)).heap[w.heap.size + 1]? = _ := (Below.heap_setCell _ _ _ _ (by simp)).trans hGr
      have hO5 : (w4.setCell ⟨w.heap.size, 2, none⟩ (.slice (some ⟨gN, 0, none⟩) q cN)).heap[w.heap.size + 1 + 1]? = _ := (Below.heap_setCell _ _ _ _ (by simp; omega)).trans hOr
      have hP5 : (w4.setCell ⟨w.heap.size, 2, none⟩ (.slice (some ⟨gN, 0, none⟩) q cN)).heap[w.heap.size + 1 + 1 + 1]? = _ := (Below.heap_setCell _ _ _ _ (by simp; omega)).trans hPr
      have hW5 : Ext w (w4.setCell ⟨w.heap.size, 2, none⟩ (.slice (some ⟨gN, 0, none⟩) q cN)) := hWr.setCell (Nat.le_refl _) _
      replace hown := hown.kept (Below.heap_setCell w4 ⟨w.heap.size, 2, none⟩ (.slice (some ⟨gN, 0, none⟩) q cN) gN (by simp; omega))
      clear e0 e1 e2 ef0 ef1 ef2 g0 g1 g2 g3 g4 g5 o0 o1 o2 of0 of1 of2 p0 p1 p2 pf0 pf1 pf2
      clear hEr hGr hOr hPr hWr
      generalize w4.setCell ⟨w.heap.size, 2, none⟩ (.slice (some ⟨gN, 0, none⟩) q cN) = w5 at *
      have hEr := hE5
      have hGr := hG5
      have hOr := hO5
      have hPr := hP5
      obtain ⟨k0, k1⟩ := hown.at hil
      have e0 : w5.cell? ⟨w.heap.size, 0, none⟩ = some (.int .i64 T) := by simp [World.cell?, hEr]
      have ef0 : w5.frozen? ⟨w.heap.size, 0, none⟩ = false := by simp [World.frozen?, hEr]
      have e1 : w5.cell? ⟨w.heap.size, 1, none⟩ = some (.int .i64 C) := by simp [World.cell?, hEr]
      have ef1 : w5.frozen? ⟨w.heap.size, 1, none⟩ = false := by simp [World.frozen?, hEr]
      have e2 : w5.cell? ⟨w.heap.size, 2, none⟩ = some (.slice (some ⟨gN, 0, none⟩) q cN) := by simp [World.cell?, hEr]
      have ef2 : w5.frozen? ⟨w.heap.size, 2, none⟩ = false := by simp [World.frozen?, hEr]
      have g0 : w5.cell? ⟨w.heap.size + 1, 0, none⟩ = some (.int .i64 (j : Int)) := by simp [World.cell?, hGr]
      have g1 : w5.cell? ⟨w.heap.size + 1, 1, none⟩ = some (.int .i64 (i : Int)) := by simp [World.cell?, hGr]
      have g2 : w5.cell? ⟨w.heap.size + 1, 2, none⟩ = some (.int .u64 a) := by simp [World.cell?, hGr]
      have g3 : w5.cell? ⟨w.heap.size + 1, 3, none⟩ = some (.int .u64 b) := by simp [World.cell?, hGr]
      have g4 : w5.cell? ⟨w.heap.size + 1, 4, none⟩ = some (.slice D m cd) := by simp [World.cell?, hGr]
      have g5 : w5.cell? ⟨w.heap.size + 1, 5, none⟩ = some (.slice B q2 cb) := by simp [World.cell?, hGr]
      have o0 : w5.cell? ⟨w.heap.size + 1 + 1, 0, none⟩ = some (.int .i64 0) := by simp [World.cell?, hOr]
      have of0 : w5.frozen? ⟨w.heap.size + 1 + 1, 0, none⟩ = false := by simp [World.frozen?, hOr]
      have o1 : w5.cell? ⟨w.heap.size + 1 + 1, 1, none⟩ = some (.int .i64 0) := by simp [World.cell?, hOr]
      have of1 : w5.frozen? ⟨w.heap.size + 1 + 1, 1, none⟩ = false := by simp [World.frozen?, hOr]
      have o2 : w5.cell? ⟨w.heap.size + 1 + 1, 2, none⟩ = some (.slice none 0 0) := by simp [World.cell?, hOr]
      have of2 : w5.frozen? ⟨w.heap.size + 1 + 1, 2, none⟩ = false := by simp [World.frozen?, hOr]
      have p0 : w5.cell? ⟨w.heap.size + 1 + 1 + 1, 0, none⟩ = some (.int .u64 0) := by simp [World.cell?, hPr]
      have pf0 : w5.frozen? ⟨w.heap.size + 1 + 1 + 1, 0, none⟩ = false := by simp [World.frozen?, hPr]
      have p1 : w5.cell? ⟨w.heap.size + 1 + 1 + 1, 1, none⟩ = some (.slice none 0 0) := by simp [World.cell?, hPr]
      have pf1 : w5.frozen? ⟨w.heap.size + 1 + 1 + 1, 1, none⟩ = false := by simp [World.frozen?, hPr]
      have p2 : w5.cell? ⟨w.heap.size + 1 + 1 + 1, 2, none⟩ = some (.bool false) := by simp [World.cell?, hPr]
      have pf2 : w5.frozen? ⟨w.heap.size + 1 + 1 + 1, 2, none⟩ = false := by simp [World.frozen?, hPr]
      go_upto_region 12 with (fail)
      have hE6 : (w5.setCell ⟨gN, i, none⟩ (.int .u64 nx)).heap[w.heap.size]? = _ := (Below.heap_setCell _ _ _ _ (by simp; omega)).trans hE5
      have hO6 : (w5.setCell ⟨gN, i, none⟩ (.int .u64 nx)).heap[w.heap.size + 1 + 1]? = _ := (Below.heap_setCell _ _ _ _ (by simp; omega)).trans hO5
      have hP6 : (w5.setCell ⟨gN, i, none⟩ (.int .u64 nx)).heap[w.heap.size + 1 + 1 + 1]? = _ := (Below.heap_setCell _ _ _ _ (by simp; omega)).trans hP5
      have hW6 : Ext w (w5.setCell ⟨gN, i, none⟩ (.int .u64 nx)) := hW5.setCell (by simp; omega) _
      have hown6 := hown.set i nx
      clear e0 e1 e2 ef0 ef1 ef2 g0 g1 g2 g3 g4 g5 o0 o1 o2 of0 of1 of2 p0 p1 p2 pf0 pf1 pf2
      clear hE5 hG5 hO5 hP5 hW5 hEr hGr hOr hPr k0 k1 hown
      generalize w5.setCell ⟨gN, i, none⟩ (.int .u64 nx) = w6 at *
      have e0 : w6.cell? ⟨w.heap.size, 0, none⟩ = some (.int .i64 T) := by simp [World.cell?, hE6]
      have e1 : w6.cell? ⟨w.heap.size, 1, none⟩ = some (.int .i64 C) := by simp [World.cell?, hE6]
      have e2 : w6.cell? ⟨w.heap.size, 2, none⟩ = some (.slice (some ⟨gN, 0, none⟩) q cN) := by simp [World.cell?, hE6]
      have o0 : w6.cell? ⟨w.heap.size + 1 + 1, 0, none⟩ = some (.int .i64 0) := by simp [World.cell?, hO6]
      have of0 : w6.frozen? ⟨w.heap.size + 1 + 1, 0, none⟩ = false := by simp [World.frozen?, hO6]
      have o1 : w6.cell? ⟨w.heap.size + 1 + 1, 1, none⟩ = some (.int .i64 0) := by simp [World.cell?, hO6]
      have of1 : w6.frozen? ⟨w.heap.size + 1 + 1, 1, none⟩ = false := by simp [World.frozen?, hO6]
      have o2 : w6.cell? ⟨w.heap.size + 1 + 1, 2, none⟩ = some (.slice none 0 0) := by simp [World.cell?, hO6]
      have of2 : w6.frozen? ⟨w.heap.size + 1 + 1, 2, none⟩ = false := by simp [World.frozen?, hO6]
      have p0 : w6.cell? ⟨w.heap.size + 1 + 1 + 1, 0, none⟩ = some (.int .u64 0) := by simp [World.cell?, hP6]
      have pf0 : w6.frozen? ⟨w.heap.size + 1 + 1 + 1, 0, none⟩ = false := by simp [World.frozen?, hP6]
      have p1 : w6.cell? ⟨w.heap.size + 1 + 1 + 1, 1, none⟩ = some (.slice none 0 0) := by simp [World.cell?, hP6]
      have pf1 : w6.frozen? ⟨w.heap.size + 1 + 1 + 1, 1, none⟩ = false := by simp [World.frozen?, hP6]
      have p2 : w6.cell? ⟨w.heap.size + 1 + 1 + 1, 2, none⟩ = some (.bool false) := by simp [World.cell?, hP6]
      have pf2 : w6.frozen? ⟨w.heap.size + 1 + 1 + 1, 2, none⟩ = false := by simp [World.frozen?, hP6]
      clear hE6
      have hrng : ∀ z ∈ ws.set i nx, 0 ≤ z ∧ z < 18446744073709551616 := fun z hz => by
       rcases List.mem_or_eq_of_mem_set hz with h | rfl
       ·exact hA.rng z h
       ·exact hnr
      have hlq : (ws.set i nx).length = q := by simp [hlen]

      have hfz : ((((((w6.setCell ⟨w.heap.size + 1 + 1, 0, none⟩ (.int .i64 T)).setCell ⟨w.heap.size + 1 + 1, 1, none⟩ (.int .i64 C)).setCell ⟨w.heap.size + 1 + 1, 2, none⟩ (.slice (some ⟨gN, 0, none⟩) q cN)).setCell ⟨w.heap.size + 1 + 1 + 1, 0, none⟩ (.int .u64 nn)).setCell ⟨w.heap.size + 1 + 1 + 1, 1, none⟩ (.slice none 0 0)).setCell ⟨w.heap.size + 1 + 1 + 1, 2, none⟩ (.bool false)).heap[gN]? = w6.heap[gN]? := (setAll_other (g := w.heap.size + 1 + 1 + 1) (k := gN) (by omega) [.int .u64 nn, .slice none 0 0, .bool false] 0 _).trans (setAll_other (g := w.heap.size + 1 + 1) (k := gN) (by omega) [.int .i64 T, .int .i64 C, .slice (some ⟨gN, 0, none⟩) q cN] 0 w6)
      have hfo := fun (wz : World) (hz : wz.heap[gN]? = w6.heap[gN]?) => (hown6.kept hz).v hrng
      simp only [hlq] at hfo
      have hF : Ext w ((((((w6.setCell ⟨w.heap.size + 1 + 1, 0, none⟩ (.int .i64 T)).setCell ⟨w.heap.size + 1 + 1, 1, none⟩ (.int .i64 C)).setCell ⟨w.heap.size + 1 + 1, 2, none⟩ (.slice (some ⟨gN, 0, none⟩) q cN)).setCell ⟨w.heap.size + 1 + 1 + 1, 0, none⟩ (.int .u64 nn)).setCell ⟨w.heap.size + 1 + 1 + 1, 1, none⟩ (.slice none 0 0)).setCell ⟨w.heap.size + 1 + 1 + 1, 2, none⟩ (.bool false)) := setAll_ext (g := w.heap.size + 1 + 1 + 1) (vs := [.int .u64 nn, .slice none 0 0, .bool false]) (i := 0) (setAll_ext (g := w.heap.size + 1 + 1) (vs := [.int .i64 T, .int .i64 C, .slice (some ⟨gN, 0, none⟩) q cN]) (i := 0) hW6 (by omega)) (by omega)
      have hfO : ((((((w6.setCell ⟨w.heap.size + 1 + 1, 0, none⟩ (.int .i64 T)).setCell ⟨w.heap.size + 1 + 1, 1, none⟩ (.int .i64 C)).setCell ⟨w.heap.size + 1 + 1, 2, none⟩ (.slice (some ⟨gN, 0, none⟩) q cN)).setCell ⟨w.heap.size + 1 + 1 + 1, 0, none⟩ (.int .u64 nn)).setCell ⟨w.heap.size + 1 + 1 + 1, 1, none⟩ (.slice none 0 0)).setCell ⟨w.heap.size + 1 + 1 + 1, 2, none⟩ (.bool false)).heap[w.heap.size + 1 + 1]? = some (.cells #[.int .i64 T, .int .i64 C, .slice (some ⟨gN, 0, none⟩) q cN] 45 (0, 0)) := (setAll_other (g := w.heap.size + 1 + 1 + 1) (by omega) [.int .u64 nn, .slice none 0 0, .bool false] 0 (setAll (w.heap.size + 1 + 1) 0 [.int .i64 T, .int .i64 C, .slice (some ⟨gN, 0, none⟩) q cN] w6)).trans (setAll_all (vs := [.int .i64 T, .int .i64 C, .slice (some ⟨gN, 0, none⟩) q cN]) hO6 rfl)
      have hfP : ((((((w6.setCell ⟨w.heap.size + 1 + 1, 0, none⟩ (.int .i64 T)).setCell ⟨w.heap.size + 1 + 1, 1, none⟩ (.int .i64 C)).setCell ⟨w.heap.size + 1 + 1, 2, none⟩ (.slice (some ⟨gN, 0, none⟩) q cN)).setCell ⟨w.heap.size + 1 + 1 + 1, 0, none⟩ (.int .u64 nn)).setCell ⟨w.heap.size + 1 + 1 + 1, 1, none⟩ (.slice none 0 0)).setCell ⟨w.heap.size + 1 + 1 + 1, 2, none⟩ (.bool false)).heap[w.heap.size + 1 + 1 + 1]? = some (.cells #[.int .u64 nn, .slice none 0 0, .bool false] 59 (0, 0)) := setAll_all (vs := [.int .u64 nn, .slice none 0 0, .bool false]) ((setAll_other (g := w.heap.size + 1 + 1) (by omega) [.int .i64 T, .int .i64 C, .slice (some ⟨gN, 0, none⟩) q cN] 0 w6).trans hP6) rfl
      clear hO6 hP6
      go_wp2
      generalize ((((((w6.setCell ⟨w.heap.size + 1 + 1, 0, none⟩ (.int .i64 T)).setCell ⟨w.heap.size + 1 + 1, 1, none⟩ (.int .i64 C)).setCell ⟨w.heap.size + 1 + 1, 2, none⟩ (.slice (some ⟨gN, 0, none⟩) q cN)).setCell ⟨w.heap.size + 1 + 1 + 1, 0, none⟩ (.int .u64 nn)).setCell ⟨w.heap.size + 1 + 1 + 1, 1, none⟩ (.slice none 0 0)).setCell ⟨w.heap.size + 1 + 1 + 1, 2, none⟩ (.bool false)) = wf at *
      clear o0 o1 o2 p0 p1 p2
      have o0 : wf.cell? ⟨w.heap.size + 1 + 1, 0, none⟩ = some (.int .i64 T) := by simp [World.cell?, hfO]
      have o1 : wf.cell? ⟨w.heap.size + 1 + 1, 1, none⟩ = some (.int .i64 C) := by simp [World.cell?, hfO]
      have o2 : wf.cell? ⟨w.heap.size + 1 + 1, 2, none⟩ = some (.slice (some ⟨gN, 0, none⟩) q cN) := by simp [World.cell?, hfO]
      have p0 : wf.cell? ⟨w.heap.size + 1 + 1 + 1, 0, none⟩ = some (.int .u64 nn) := by simp [World.cell?, hfP]
      have p1 : wf.cell? ⟨w.heap.size + 1 + 1 + 1, 1, none⟩ = some (.slice none 0 0) := by simp [World.cell?, hfP]
      have p2 : wf.cell? ⟨w.heap.size + 1 + 1 + 1, 2, none⟩ = some (.bool false) := by simp [World.cell?, hfP]
      refine bodyPost_ret (v := .tuple #[.agg #[.int .i64 T, .int .i64 C, .slice (some ⟨gN, 0, none⟩) q cN], .agg #[.int .u64 nn, .slice none 0 0, .bool false]]) (by simp [results, Try.results121, go_sem, o0, o1, o2, p0, p1, p2]) rfl ?_
      try rw [hwk]
      try rw [hwr]
      exact ⟨some ⟨gN, 0, none⟩, cN, rfl, hfo _ hfz, hF⟩
    ·go_wp2
     go_roundw
     case rel => exact ⟨hx, j + 1, by go_num, by omega, fun x hxx => by
      by_cases h : x = j
      ·rw [h]; exact hk
      ·exact hkj x (by omega)⟩
     case measure => simp [intOf]; omega
   ·obtain rfl : j = 5 := by omega
    have hno : inW ws.length ⟨k, (i : Int), a, b, dat, wd⟩ = false := by
     rw [Bool.eq_false_iff]; intro h
     have h1 := (inW_iff.1 h).1
     have h2 := (inW_iff.1 h).2.1
     simp only at h1 h2
     have k0 := hkj 0 (by omega)
     have k1 := hkj 1 (by omega)
     have k2 := hkj 2 (by omega)
     have k3 := hkj 3 (by omega)
     have k4 := hkj 4 (by omega)
     omega
    have hwk : wordsK ws ⟨k, (i : Int), a, b, dat, wd⟩ = ws := by simp [wordsK, hno]
    have hwr : wordsR ws ⟨k, (i : Int), a, b, dat, wd⟩ = ResK.zero := by simp [wordsR, hno]
    have e0 : wr.cell? ⟨w.heap.size, 0, none⟩ = some (.int .i64 T) := by simp [World.cell?, hEr]
    have ef0 : wr.frozen? ⟨w.heap.size, 0, none⟩ = false := by simp [World.frozen?, hEr]
    have e1 : wr.cell? ⟨w.heap.size, 1, none⟩ = some (.int .i64 C) := by simp [World.cell?, hEr]
    have ef1 : wr.frozen? ⟨w.heap.size, 1, none⟩ = false := by simp [World.frozen?, hEr]
    have e2 : wr.cell? ⟨w.heap.size, 2, none⟩ = some (.slice (some a0) q c) := by simp [World.cell?, hEr]
    have ef2 : wr.frozen? ⟨w.heap.size, 2, none⟩ = false := by simp [World.frozen?, hEr]
    have g0 : wr.cell? ⟨w.heap.size + 1, 0, none⟩ = some (.int .i64 k) := by simp [World.cell?, hGr]
    have g1 : wr.cell? ⟨w.heap.size + 1, 1, none⟩ = some (.int .i64 (i : Int)) := by simp [World.cell?, hGr]
    have g2 : wr.cell? ⟨w.heap.size + 1, 2, none⟩ = some (.int .u64 a) := by simp [World.cell?, hGr]
    have g3 : wr.cell? ⟨w.heap.size + 1, 3, none⟩ = some (.int .u64 b) := by simp [World.cell?, hGr]
    have g4 : wr.cell? ⟨w.heap.size + 1, 4, none⟩ = some (.slice D m cd) := by simp [World.cell?, hGr]
    have g5 : wr.cell? ⟨w.heap.size + 1, 5, none⟩ = some (.slice B q2 cb) := by simp [World.cell?, hGr]
    have o0 : wr.cell? ⟨w.heap.size + 1 + 1, 0, none⟩ = some (.int .i64 0) := by simp [World.cell?, hOr]
    have of0 : wr.frozen? ⟨w.heap.size + 1 + 1, 0, none⟩ = false := by simp [World.frozen?, hOr]
    have o1 : wr.cell? ⟨w.heap.size + 1 + 1, 1, none⟩ = some (.int .i64 0) := by simp [World.cell?, hOr]
    have of1 : wr.frozen? ⟨w.heap.size + 1 + 1, 1, none⟩ = false := by simp [World.frozen?, hOr]
    have o2 : wr.cell? ⟨w.heap.size + 1 + 1, 2, none⟩ = some (.slice none 0 0) := by simp [World.cell?, hOr]
    have of2 : wr.frozen? ⟨w.heap.size + 1 + 1, 2, none⟩ = false := by simp [World.frozen?, hOr]
    have p0 : wr.cell? ⟨w.heap.size + 1 + 1 + 1, 0, none⟩ = some (.int .u64 0) := by simp [World.cell?, hPr]
    have pf0 : wr.frozen? ⟨w.heap.size + 1 + 1 + 1, 0, none⟩ = false := by simp [World.frozen?, hPr]
    have p1 : wr.cell? ⟨w.heap.size + 1 + 1 + 1, 1, none⟩ = some (.slice none 0 0) := by simp [World.cell?, hPr]
    have pf1 : wr.frozen? ⟨w.heap.size + 1 + 1 + 1, 1, none⟩ = false := by simp [World.frozen?, hPr]
    have p2 : wr.cell? ⟨w.heap.size + 1 + 1 + 1, 2, none⟩ = some (.bool false) := by simp [World.cell?, hPr]
    have pf2 : wr.frozen? ⟨w.heap.size + 1 + 1 + 1, 2, none⟩ = false := by simp [World.frozen?, hPr]
    clear hEr hGr hTr hlr
    have hF : Ext w ((((((wr.setCell ⟨w.heap.size + 1 + 1, 0, none⟩ (.int .i64 T)).setCell ⟨w.heap.size + 1 + 1, 1, none⟩ (.int .i64 C)).setCell ⟨w.heap.size + 1 + 1, 2, none⟩ (.slice (some a0) q c)).setCell ⟨w.heap.size + 1 + 1 + 1, 0, none⟩ (.int .u64 0)).setCell ⟨w.heap.size + 1 + 1 + 1, 1, none⟩ (.slice none 0 0)).setCell ⟨w.heap.size + 1 + 1 + 1, 2, none⟩ (.bool false)) := setAll_ext (g := w.heap.size + 1 + 1 + 1) (vs := [.int .u64 0, .slice none 0 0, .bool false]) (i := 0) (setAll_ext (g := w.heap.size + 1 + 1) (vs := [.int .i64 T, .int .i64 C, .slice (some a0) q c]) (i := 0) hWr (by omega)) (by omega)
    have hfO : ((((((wr.setCell ⟨w.heap.size + 1 + 1, 0, none⟩ (.int .i64 T)).setCell ⟨w.heap.size + 1 + 1, 1, none⟩ (.int .i64 C)).setCell ⟨w.heap.size + 1 + 1, 2, none⟩ (.slice (some a0) q c)).setCell ⟨w.heap.size + 1 + 1 + 1, 0, none⟩ (.int .u64 0)).setCell ⟨w.heap.size + 1 + 1 + 1, 1, none⟩ (.slice none 0 0)).setCell ⟨w.heap.size + 1 + 1 + 1, 2, none⟩ (.bool false)).heap[w.heap.size + 1 + 1]? = some (.cells #[.int .i64 T, .int .i64 C, .slice (some a0) q c] 45 (0, 0)) := (setAll_other (g := w.heap.size + 1 + 1 + 1) (by omega) [.int .u64 0, .slice none 0 0, .bool false] 0 (setAll (w.heap.size + 1 + 1) 0 [.int .i64 T, .int .i64 C, .slice (some a0) q c] wr)).trans (setAll_all (vs := [.int .i64 T, .int .i64 C, .slice (some a0) q c]) hOr rfl)
    have hfP : ((((((wr.setCell ⟨w.heap.size + 1 + 1, 0, none⟩ (.int .i64 T)).setCell ⟨w.heap.size + 1 + 1, 1, none⟩ (.int .i64 C)).setCell ⟨w.heap.size + 1 + 1, 2, none⟩ (.slice (some a0) q c)).setCell ⟨w.heap.size + 1 + 1 + 1, 0, none⟩ (.int .u64 0)).setCell ⟨w.heap.size + 1 + 1 + 1, 1, none⟩ (.slice none 0 0)).setCell ⟨w.heap.size + 1 + 1 + 1, 2, none⟩ (.bool false)).heap[w.heap.size + 1 + 1 + 1]? = some (.cells #[.int .u64 0, .slice none 0 0, .bool false] 59 (0, 0)) := setAll_all (vs := [.int .u64 0, .slice none 0 0, .bool false]) ((setAll_other (g := w.heap.size + 1 + 1) (by omega) [.int .i64 T, .int .i64 C, .slice (some a0) q c] 0 wr).trans hPr) rfl
    clear hOr hPr
    go_wp2
    generalize ((((((wr.setCell ⟨w.heap.size + 1 + 1, 0, none⟩ (.int .i64 T)).setCell ⟨w.heap.size + 1 + 1, 1, none⟩ (.int .i64 C)).setCell ⟨w.heap.size + 1 + 1, 2, none⟩ (.slice (some a0) q c)).setCell ⟨w.heap.size + 1 + 1 + 1, 0, none⟩ (.int .u64 0)).setCell ⟨w.heap.size + 1 + 1 + 1, 1, none⟩ (.slice none 0 0)).setCell ⟨w.heap.size + 1 + 1 + 1, 2, none⟩ (.bool false)) = wf at *
    clear o0 o1 o2 p0 p1 p2
    have o0 : wf.cell? ⟨w.heap.size + 1 + 1, 0, none⟩ = some (.int .i64 T) := by simp [World.cell?, hfO]
    have o1 : wf.cell? ⟨w.heap.size + 1 + 1, 1, none⟩ = some (.int .i64 C) := by simp [World.cell?, hfO]
    have o2 : wf.cell? ⟨w.heap.size + 1 + 1, 2, none⟩ = some (.slice (some a0) q c) := by simp [World.cell?, hfO]
    have p0 : wf.cell? ⟨w.heap.size + 1 + 1 + 1, 0, none⟩ = some (.int .u64 0) := by simp [World.cell?, hfP]
    have p1 : wf.cell? ⟨w.heap.size + 1 + 1 + 1, 1, none⟩ = some (.slice none 0 0) := by simp [World.cell?, hfP]
    have p2 : wf.cell? ⟨w.heap.size + 1 + 1 + 1, 2, none⟩ = some (.bool false) := by simp [World.cell?, hfP]
    refine bodyPost_ret (v := .tuple #[.agg #[.int .i64 T, .int .i64 C, .slice (some a0) q c], .agg #[.int .u64 0, .slice none 0 0, .bool false]]) (by simp [results, Try.results121, go_sem, o0, o1, o2, p0, p1, p2]) rfl ?_
    try rw [hwk]
    try rw [hwr]
    exact ⟨some a0, c, rfl, hA.ext hF, hF⟩
end Go.Proofs.Ytjokaginolpbeaa

namespace Go.Proofs.Ytjokaginolpbeaa
open Go.RowKit

/-! access.Do. -/
set_option maxRecDepth 100000 in
set_option maxHeartbeats 1000000 in
theorem adisk_any (k : Int) (w : World) : Calls Try.prog 109 #[.int .i64 k] w fun e w' => e = .returned (.bool (diskKind k)) ∧ w = w' := by
 by_cases h5 : 5 ≤ k
 ·by_cases h12 : k ≤ 12
  ·rw [show diskKind k = true by simp [diskKind, h5, h12]]
   go_enter Try.func109, Try.ntmps109
   go_wp2
   go_ret
   exact ⟨rfl, rfl⟩
  ·rw [show diskKind k = false by simp [diskKind, h12]]
   go_enter Try.func109, Try.ntmps109
   go_wp2
   go_ret
   exact ⟨rfl, rfl⟩
 ·rw [show diskKind k = false by simp [diskKind, h5]]
  go_enter Try.func109, Try.ntmps109
  go_wp2
  go_ret
  exact ⟨rfl, rfl⟩
theorem streams_any (RN n : Nat) (A0 A1 : Option Addr) (c0 c1 : Nat) (K0 K1 : List Key) (me k ce a b : Int) (D : Option Addr) (m cd : Nat) (B : Option Addr) (q2 cb : Nat) (dat : List UInt8) (wd : List Int) (w : World) (hd : DkK w (.agg #[.int .u64 (RN : Int), .slice A0 n c0, .slice A1 n c1]) (RN : Int) n K0 K1) (hR : RN < 18446744073709551616) (hpos : 0 < n) (hn : n ≤ 64) (hB : BytesV w D m cd dat)
  (hm0 : ∀ x ∈ K0, x.1.length + m ≤ 65536) (hm1 : ∀ x ∈ K1, x.1.length + m ≤ 65536) (hk : diskKind k = true) :
  Calls Try.prog 119 #[.agg #[.int .u64 (RN : Int), .slice A0 n c0, .slice A1 n c1], .int .i64 me, .agg #[.int .i64 k, .int .i64 ce, .int .u64 a, .int .u64 b, .slice D m cd, .slice B q2 cb]] w (StrPost (strRoot (RN : Int) ⟨k, ce, a, b, dat, wd⟩) n (strK0 (RN : Int) n me ⟨k, ce, a, b, dat, wd⟩ K0) (strK1 (RN : Int) n me ⟨k, ce, a, b, dat, wd⟩ K1) (strR (RN : Int) ⟨k, ce, a, b, dat, wd⟩ K0 K1) w) := by
 have h8 : k = 5 ∨ k = 6 ∨ k = 7 ∨ k = 8 ∨ k = 9 ∨ k = 10 ∨ k = 11 ∨ k = 12 := by
  simp only [diskKind, Bool.and_eq_true, decide_eq_true_eq] at hk; omega
 rcases h8 with rfl | rfl | rfl | rfl | rfl | rfl | rfl | rfl
 ·exact streams_5 RN n A0 A1 c0 c1 K0 K1 me ce a b D m cd B q2 cb dat wd w hd hR hpos hn hB hm0 hm1
 ·exact streams_6 RN n A0 A1 c0 c1 K0 K1 me ce a b D m cd B q2 cb dat wd w hd hR hpos hn hB hm0 hm1
 ·exact streams_7 RN n A0 A1 c0 c1 K0 K1 me ce a b D m cd B q2 cb dat wd w hd hR hpos hn hB hm0 hm1
 ·exact streams_8 RN n A0 A1 c0 c1 K0 K1 me ce a b D m cd B q2 cb dat wd w hd hR hpos hn hB hm0 hm1
 ·exact streams_9 RN n A0 A1 c0 c1 K0 K1 me ce a b D m cd B q2 cb dat wd w hd hR hpos hn hB hm0 hm1
 ·exact streams_10 RN n A0 A1 c0 c1 K0 K1 me ce a b D m cd B q2 cb dat wd w hd hR hpos hn hB hm0 hm1
 ·exact streams_11 RN n A0 A1 c0 c1 K0 K1 me ce a b D m cd B q2 cb dat wd w hd hR hpos hn hB hm0 hm1
 ·exact streams_12 RN n A0 A1 c0 c1 K0 K1 me ce a b D m cd B q2 cb dat wd w hd hR hpos hn hB hm0 hm1
set_option maxRecDepth 100000 in
set_option maxHeartbeats 1000000 in
theorem do_fail (T C : Int) (A : Option Addr) (q c : Nat) (ws : List Int) (RN n : Nat) (A0 A1 : Option Addr) (c0 c1 : Nat) (K0 K1 : List Key) (me k ce a b : Int) (D : Option Addr) (m cd : Nat) (B : Option Addr) (q2 cb : Nat) (dat : List UInt8) (wd : List Int) (w : World) (hA : WordsV w A q c ws) (hd : DkK w (.agg #[.int .u64 (RN : Int), .slice A0 n c0, .slice A1 n c1]) (RN : Int) n K0 K1)
  (hB : BytesV w D m cd dat) (hwd : WordsV w B q2 cb wd) (ha : 0 ≤ a ∧ a < 18446744073709551616) (hb : 0 ≤ b ∧ b < 18446744073709551616) {mF : Nat} (hF : Fit ⟨T, C, ws, RN, n, K0, K1⟩ mF) (hk : diskKind k = true) :
  Calls Try.prog 24 #[.agg #[.int .i64 T, .int .i64 C, .slice A q c, .int .u64 (RN : Int), .slice A0 n c0, .slice A1 n c1], .int .i64 me, .agg #[.int .i64 k, .int .i64 ce, .int .u64 a, .int .u64 b, .slice D m cd, .slice B q2 cb], .bool true] w (DoPost (⟨T, C, ws, RN, n, K0, K1⟩ : WldK) ⟨0, [], true⟩ w) := by
 have hlen := hA.len
 have hlen2 := hwd.len
 have hpos : 0 < n := hF.pos
 have hn : n ≤ 64 := hF.le
 have hR : RN < 18446744073709551616 := by have := hF.root.2; simp only at this; omega
 have hws2 : 2 ≤ ws.length := hF.ws.1
 have hws6 : ws.length ≤ 65536 := hF.ws.2
 have hm0 : ∀ x ∈ K0, x.1.length + mF ≤ 65536 := hF.k0
 have hm1 : ∀ x ∈ K1, x.1.length + mF ≤ 65536 := hF.k1
 clear hF
 go_enter Try.func24, Try.ntmps24
 go_upto_region 3 with (fail)
 obtain ⟨hW, hE, hG, hO, hP, hQ⟩ := boxes5 w (.cells #[.int .i64 T, .int .i64 C, .slice A q c, .int .u64 (RN : Int), .slice A0 n c0, .slice A1 n c1] 51) (.cells #[.int .i64 k, .int .i64 ce, .int .u64 a, .int .u64 b, .slice D m cd, .slice B q2 cb] 33) (.cells #[.int .i64 0, .int .i64 0, .slice none 0 0, .int .u64 0, .slice none 0 0, .slice none 0 0] 51) (.cells #[.int .u64 0, .slice none 0 0, .bool false] 59) (.cells #[.int .u64 0, .slice none 0 0, .bool false] 59)
 generalize ((((w.alloc (.cells #[.int .i64 T, .int .i64 C, .slice A q c, .int .u64 (RN : Int), .slice A0 n c0, .slice A1 n c1] 51)).alloc (.cells #[.int .i64 k, .int .i64 ce, .int .u64 a, .int .u64 b, .slice D m cd, .slice B q2 cb] 33)).alloc (.cells #[.int .i64 0, .int .i64 0, .slice none 0 0, .int .u64 0, .slice none 0 0, .slice none 0 0] 51)).alloc (.cells #[.int .u64 0, .slice none 0 0, .bool false] 59)).alloc (.cells #[.int .u64 0, .slice none 0 0, .bool false] 59) = W at *
 have hlt : w.heap.size + 1 + 1 + 1 + 1 < W.heap.size := (Array.getElem?_eq_some_iff.1 hQ).1
 have e0 : W.cell? ⟨w.heap.size, 0, none⟩ = some (.int .i64 T) := by simp [World.cell?, hE]
 have ef0 : W.frozen? ⟨w.heap.size, 0, none⟩ = false := by simp [World.frozen?, hE]
 have e1 : W.cell? ⟨w.heap.size, 1, none⟩ = some (.int .i64 C) := by simp [World.cell?, hE]
 have ef1 : W.frozen? ⟨w.heap.size, 1, none⟩ = false := by simp [World.frozen?, hE]
 have e2 : W.cell? ⟨w.heap.size, 2, none⟩ = some (.slice A q c) := by simp [World.cell?, hE]
 have ef2 : W.frozen? ⟨w.heap.size, 2, none⟩ = false := by simp [World.frozen?, hE]
 have e3 : W.cell? ⟨w.heap.size, 3, none⟩ = some (.int .u64 (RN : Int)) := by simp [World.cell?, hE]
 have ef3 : W.frozen? ⟨w.heap.size, 3, none⟩ = false := by simp [World.frozen?, hE]
 have e4 : W.cell? ⟨w.heap.size, 4, none⟩ = some (.slice A0 n c0) := by simp [World.cell?, hE]
 have ef4 : W.frozen? ⟨w.heap.size, 4, none⟩ = false := by simp [World.frozen?, hE]
 have e5 : W.cell? ⟨w.heap.size, 5, none⟩ = some (.slice A1 n c1) := by simp [World.cell?, hE]
 have ef5 : W.frozen? ⟨w.heap.size, 5, none⟩ = false := by simp [World.frozen?, hE]
 have g0 : W.cell? ⟨w.heap.size + 1, 0, none⟩ = some (.int .i64 k) := by simp [World.cell?, hG]
 have g1 : W.cell? ⟨w.heap.size + 1, 1, none⟩ = some (.int .i64 ce) := by simp [World.cell?, hG]
 have g2 : W.cell? ⟨w.heap.size + 1, 2, none⟩ = some (.int .u64 a) := by simp [World.cell?, hG]
 have g3 : W.cell? ⟨w.heap.size + 1, 3, none⟩ = some (.int .u64 b) := by simp [World.cell?, hG]
 have g4 : W.cell? ⟨w.heap.size + 1, 4, none⟩ = some (.slice D m cd) := by simp [World.cell?, hG]
 have g5 : W.cell? ⟨w.heap.size + 1, 5, none⟩ = some (.slice B q2 cb) := by simp [World.cell?, hG]
 have z0 : W.cell? ⟨w.heap.size + 1 + 1 + 1 + 1, 0, none⟩ = some (.int .u64 0) := by simp [World.cell?, hQ]
 have zf0 : W.frozen? ⟨w.heap.size + 1 + 1 + 1 + 1, 0, none⟩ = false := by simp [World.frozen?, hQ]
 have z1 : W.cell? ⟨w.heap.size + 1 + 1 + 1 + 1, 1, none⟩ = some (.slice none 0 0) := by simp [World.cell?, hQ]
 have zf1 : W.frozen? ⟨w.heap.size + 1 + 1 + 1 + 1, 1, none⟩ = false := by simp [World.frozen?, hQ]
 have z2 : W.cell? ⟨w.heap.size + 1 + 1 + 1 + 1, 2, none⟩ = some (.bool false) := by simp [World.cell?, hQ]
 have zf2 : W.frozen? ⟨w.heap.size + 1 + 1 + 1 + 1, 2, none⟩ = false := by simp [World.frozen?, hQ]
 go_wp2_with fail
 refine (adisk_any k _).mono ?_
 rintro e w1 ⟨rfl, rfl⟩
 rw [hk]
 go_upto_region 10 with (fail)
 have hE3 : (W.setCell ⟨w.heap.size + 1 + 1 + 1 + 1, 2, none⟩ (.bool true)).heap[w.heap.size]? = some (.cells #[.int .i64 T, .int .i64 C, .slice A q c, .int .u64 (RN : Int), .slice A0 n c0, .slice A1 n c1] 51 (0, 0)) := (Below.heap_setCell _ _ _ _ (by simp <;> omega)).trans hE
 have hO3 : (W.setCell ⟨w.heap.size + 1 + 1 + 1 + 1, 2, none⟩ (.bool true)).heap[w.heap.size + 1 + 1]? = some (.cells #[.int .i64 0, .int .i64 0, .slice none 0 0, .int .u64 0, .slice none 0 0, .slice none 0 0] 51 (0, 0)) := (Below.heap_setCell _ _ _ _ (by simp <;> omega)).trans hO
 have hP3 : (W.setCell ⟨w.heap.size + 1 + 1 + 1 + 1, 2, none⟩ (.bool true)).heap[w.heap.size + 1 + 1 + 1]? = some (.cells #[.int .u64 0, .slice none 0 0, .bool false] 59 (0, 0)) := (Below.heap_setCell _ _ _ _ (by simp <;> omega)).trans hP
 have hQ3 : (W.setCell ⟨w.heap.size + 1 + 1 + 1 + 1, 2, none⟩ (.bool true)).heap[w.heap.size + 1 + 1 + 1 + 1]? = some (.cells #[.int .u64 0, .slice none 0 0, .bool true] 59 (0, 0)) := heap_setCell_at hQ
 have hW3 : Ext w (W.setCell ⟨w.heap.size + 1 + 1 + 1 + 1, 2, none⟩ (.bool true)) := hW.setCell (show w.heap.size ≤ w.heap.size + 1 + 1 + 1 + 1 by omega) _
 clear e0 e1 e2 e3 e4 e5 ef0 ef1 ef2 ef3 ef4 ef5 g0 g1 g2 g3 g4 g5 z0 z1 z2 zf0 zf1 zf2
 clear hE hG hO hP hQ hW
 generalize (W.setCell ⟨w.heap.size + 1 + 1 + 1 + 1, 2, none⟩ (.bool true)) = w4 at *
 have hdk := hd.ext hW3
 have hwv := hA.ext hW3
 have hby := bytes_nil w4
 have hwl := hws2
 have HE := Lib.hid hE3
 have HO := Lib.hid hO3
 have HP := Lib.hid hP3
 have HQ := Lib.hid hQ3
 have HW := Lib.hid hW3
 clear hE3 hO3 hP3 hQ3 hW3 hlt
 obtain ⟨gOO, hOO⟩ : ∃ g, g = w.heap.size + 1 + 1 := ⟨_, rfl⟩
 refine' SB.wp_region_sure (gx := [(2, gOO)]) (Pn := fun _ _ => False) ⟨[(some 57, [], none), (some 58, [], none), (none, [0, 0], none), (none, [1, 2, 0, 1, 2], none)], [0, 0, 1, 7], [none, none, some []], [2]⟩ 3 59 [(0, 57), (1, 58)] [(0, 57), (1, 58)] [.det _, .det _, SB.Good.of (fun v w => w.heap[gOO]? = some (.cells #[.int .i64 T, .int .i64 C, .slice A q c, .int .u64 (RN : Int), .slice A0 n c0, .slice A1 n c1] 51 (0, 0))) (fun v w w' h hx => heap_ext h hx)] (by kernel_rfl) ?hpan (by kernel_rfl) (by kernel_rfl) rfl (by kernel_rfl) (by kernel_rfl) rfl ?hone ?hend
 case hpan =>
  intro _ _ _ _ h; exact h.elim
 case hone =>
  intro CS frS VS hCS ha hV
  have qs4 := slot_val (t := 4) ha rfl
  simp only [List.getElem_toArray, List.getElem_cons_succ, List.getElem_cons_zero] at qs4
  have qs8 := slot_val (t := 8) ha rfl
  simp only [List.getElem_toArray, List.getElem_cons_succ, List.getElem_cons_zero] at qs8
  have qs10 := slot_val (t := 10) ha rfl
  simp only [List.getElem_toArray, List.getElem_cons_succ, List.getElem_cons_zero] at qs10
  have HCS := Lib.hid hCS
  have HVS := Lib.hid hV
  clear ha hCS hV
  refine SB.sure_det (js := []) (ts := [4]) (gd := none) (bs := []) (SB.place_at HVS.out (k := 0) rfl) (by rw [HCS.out]; kernel_rfl) (by rw [HCS.out]; kernel_rfl) ?_ ?_
  ·intro wx hx ρ hρ hs hf; have hρc := hρ.const; have hρf := hρ.func
   obtain ⟨fx4, -⟩ := hf; rw [qs4] at fx4
   clear hs
   clear HCS HVS qs4 qs8 qs10
   refine SB.run_plain ?_
   have hgd : wx.heap[w.heap.size]? = some (.cells #[.int .i64 T, .int .i64 C, .slice A q c, .int .u64 (RN : Int), .slice A0 n c0, .slice A1 n c1] 51 (0, 0)) := hx.heap HE.out (by simp)
   have hd0 : wx.cell? ⟨w.heap.size, 0, none⟩ = some (.int .i64 T) := by simp [World.cell?, hgd]
   have hd1 : wx.cell? ⟨w.heap.size, 1, none⟩ = some (.int .i64 C) := by simp [World.cell?, hgd]
   have hd2 : wx.cell? ⟨w.heap.size, 2, none⟩ = some (.slice A q c) := by simp [World.cell?, hgd]
   have hd3 : wx.cell? ⟨w.heap.size, 3, none⟩ = some (.int .u64 (RN : Int)) := by simp [World.cell?, hgd]
   have hd4 : wx.cell? ⟨w.heap.size, 4, none⟩ = some (.slice A0 n c0) := by simp [World.cell?, hgd]
   have hd5 : wx.cell? ⟨w.heap.size, 5, none⟩ = some (.slice A1 n c1) := by simp [World.cell?, hgd]
   unfold SB.runs
   go_simp
   exact SB.detK.mk
  refine SB.sure_det (js := []) (ts := [10]) (gd := none) (bs := [gOO]) (SB.place_at HVS.out (k := 1) rfl) (by rw [HCS.out]; kernel_rfl) (by rw [HCS.out]; kernel_rfl) ?_ ?_
  ·intro wx hx ρ hρ hs hf; have hρc := hρ.const; have hρf := hρ.func
   obtain ⟨fx10, -⟩ := hf; rw [qs10] at fx10
   clear hs
   clear HCS HVS qs4 qs8 qs10
   refine SB.run_plain ?_
   have hgd : wx.heap[w.heap.size + 1 + 1 + 1 + 1]? = some (.cells #[.int .u64 0, .slice none 0 0, .bool true] 59 (0, 0)) := hx.heap HQ.out (by simp; omega)
   have hd0 : wx.cell? ⟨w.heap.size + 1 + 1 + 1 + 1, 0, none⟩ = some (.int .u64 0) := by simp [World.cell?, hgd]
   have hd1 : wx.cell? ⟨w.heap.size + 1 + 1 + 1 + 1, 1, none⟩ = some (.slice none 0 0) := by simp [World.cell?, hgd]
   have hd2 : wx.cell? ⟨w.heap.size + 1 + 1 + 1 + 1, 2, none⟩ = some (.bool true) := by simp [World.cell?, hgd]
   unfold SB.runs
   go_simp
   exact SB.detK.mk
  refine SB.sure_wild (js := [(0, 57)]) (ts := [8]) (gd := none) (bs := []) (cs := [gOO]) (SB.place_at HVS.out (k := 2) rfl) (by rw [HCS.out]; kernel_rfl) (by rw [HCS.out]; kernel_rfl) rfl ?_ ?_
  ·intro wx hx ρ hρ hs hf; have hρc := hρ.const; have hρf := hρ.func; obtain ⟨sn0, -⟩ := hs
   obtain ⟨fx8, -⟩ := hf; rw [qs8] at fx8
   rw [SB.place_at HVS.out (k := 0) rfl] at sn0; replace sn0 : ρ (.tmp 57) = _ := sn0
   clear HCS HVS qs4 qs8 qs10
   refine SB.run_plain ?_
   subst hOO
   have hg : wx.heap[w.heap.size + 1 + 1]? = some (.cells #[.int .i64 0, .int .i64 0, .slice none 0 0, .int .u64 0, .slice none 0 0, .slice none 0 0] 51 (0, 0)) := hx.heap HO.out (by simp)
   have f0 : wx.frozen? ⟨w.heap.size + 1 + 1, 0, none⟩ = false := by simp [World.frozen?, hg]
   have c0' : wx.cell? ⟨w.heap.size + 1 + 1, 0, none⟩ = some (.int .i64 0) := by simp [World.cell?, hg]
   have f1 : wx.frozen? ⟨w.heap.size + 1 + 1, 1, none⟩ = false := by simp [World.frozen?, hg]
   have c1' : wx.cell? ⟨w.heap.size + 1 + 1, 1, none⟩ = some (.int .i64 0) := by simp [World.cell?, hg]
   have f2 : wx.frozen? ⟨w.heap.size + 1 + 1, 2, none⟩ = false := by simp [World.frozen?, hg]
   have c2' : wx.cell? ⟨w.heap.size + 1 + 1, 2, none⟩ = some (.slice none 0 0) := by simp [World.cell?, hg]
   have f3 : wx.frozen? ⟨w.heap.size + 1 + 1, 3, none⟩ = false := by simp [World.frozen?, hg]
   have c3' : wx.cell? ⟨w.heap.size + 1 + 1, 3, none⟩ = some (.int .u64 0) := by simp [World.cell?, hg]
   have f4 : wx.frozen? ⟨w.heap.size + 1 + 1, 4, none⟩ = false := by simp [World.frozen?, hg]
   have c4' : wx.cell? ⟨w.heap.size + 1 + 1, 4, none⟩ = some (.slice none 0 0) := by simp [World.cell?, hg]
   have f5 : wx.frozen? ⟨w.heap.size + 1 + 1, 5, none⟩ = false := by simp [World.frozen?, hg]
   have c5' : wx.cell? ⟨w.heap.size + 1 + 1, 5, none⟩ = some (.slice none 0 0) := by simp [World.cell?, hg]
   unfold SB.runs
   go_simp
   exact ⟨.ofB (((((((ExtB.refl _ _).set _ _).set _ _).set _ _).set _ _).set _ _).set _ _) (by simp), setAll_all (vs := [.int .i64 T, .int .i64 C, .slice A q c, .int .u64 (RN : Int), .slice A0 n c0, .slice A1 n c1]) hg rfl⟩
  exact trivial
 case hend =>
  intro xs wx hx hg hq
  have gk0 : xs 0 = _ := SB.goods_get hg (i := 0) (j := 0) (d := 57) rfl
  have gk1 : xs 1 = _ := SB.goods_get hg (i := 1) (j := 1) (d := 58) rfl
  obtain ⟨-, gk2⟩ : ∃ v : Value, wx.heap[gOO]? = some (.cells #[.int .i64 T, .int .i64 C, .slice A q c, .int .u64 (RN : Int), .slice A0 n c0, .slice A1 n c1] 51 (0, 0)) := hq 2 (by decide) (by kernel_rfl)
  clear hg hq
  simp only [putAll, gk0, gk1]
  clear gk0 gk1
  clear xs
  simp only [Act.put, List.setIfInBounds_toArray, List.set_cons_zero, List.set_cons_succ, List.drop_succ_cons, List.drop_zero]
  subst hOO
  have hgO := gk2
  have hxs : SB.ExtS [w.heap.size + 1 + 1] w4.drew wx := hx
  have hbut : But (w.heap.size + 1 + 1) w4 wx := But.exts hxs
  have hgP : wx.heap[w.heap.size + 1 + 1 + 1]? = some (.cells #[.int .u64 0, .slice none 0 0, .bool false] 59 (0, 0)) := hbut _ _ (by omega) HP.out
  have hWx : Ext w wx := extS_base HW.out hxs (by omega)
  replace hdk := hdk.but hbut HO.out rfl
  replace hby := BytesV.but hby hbut HO.out rfl
  replace hwv := WordsV.but hwv hwl hbut HO.out rfl
  have hF : Ext w (((wx.setCell ⟨w.heap.size + 1 + 1 + 1, 0, none⟩ (.int .u64 0)).setCell ⟨w.heap.size + 1 + 1 + 1, 1, none⟩ (.slice none 0 0)).setCell ⟨w.heap.size + 1 + 1 + 1, 2, none⟩ (.bool true)) := setAll_ext (g := w.heap.size + 1 + 1 + 1) (vs := [.int .u64 0, .slice none 0 0, .bool true]) (i := 0) hWx (by omega)
  have hfP : (((wx.setCell ⟨w.heap.size + 1 + 1 + 1, 0, none⟩ (.int .u64 0)).setCell ⟨w.heap.size + 1 + 1 + 1, 1, none⟩ (.slice none 0 0)).setCell ⟨w.heap.size + 1 + 1 + 1, 2, none⟩ (.bool true)).heap[w.heap.size + 1 + 1 + 1]? = some (.cells #[.int .u64 0, .slice none 0 0, .bool true] 59 (0, 0)) := setAll_all (vs := [.int .u64 0, .slice none 0 0, .bool true]) hgP rfl
  have hfO : (((wx.setCell ⟨w.heap.size + 1 + 1 + 1, 0, none⟩ (.int .u64 0)).setCell ⟨w.heap.size + 1 + 1 + 1, 1, none⟩ (.slice none 0 0)).setCell ⟨w.heap.size + 1 + 1 + 1, 2, none⟩ (.bool true)).heap[w.heap.size + 1 + 1]? = some (.cells #[.int .i64 T, .int .i64 C, .slice A q c, .int .u64 (RN : Int), .slice A0 n c0, .slice A1 n c1] 51 (0, 0)) := (setAll_other (g := w.heap.size + 1 + 1 + 1) (by omega) [.int .u64 0, .slice none 0 0, .bool true] 0 wx).trans hgO
  have hfd := hdk.but (But.all (w.heap.size + 1 + 1 + 1) [.int .u64 0, .slice none 0 0, .bool true] 0 wx) hgP rfl
  have hfb := BytesV.but hby (But.all (w.heap.size + 1 + 1 + 1) [.int .u64 0, .slice none 0 0, .bool true] 0 wx) hgP rfl
  have hfw := WordsV.but hwv hwl (But.all (w.heap.size + 1 + 1 + 1) [.int .u64 0, .slice none 0 0, .bool true] 0 wx) hgP rfl
  change DkK (((wx.setCell ⟨w.heap.size + 1 + 1 + 1, 0, none⟩ (.int .u64 0)).setCell ⟨w.heap.size + 1 + 1 + 1, 1, none⟩ (.slice none 0 0)).setCell ⟨w.heap.size + 1 + 1 + 1, 2, none⟩ (.bool true)) _ _ _ _ _ at hfd
  change BytesV (((wx.setCell ⟨w.heap.size + 1 + 1 + 1, 0, none⟩ (.int .u64 0)).setCell ⟨w.heap.size + 1 + 1 + 1, 1, none⟩ (.slice none 0 0)).setCell ⟨w.heap.size + 1 + 1 + 1, 2, none⟩ (.bool true)) _ _ _ _ at hfb
  change WordsV (((wx.setCell ⟨w.heap.size + 1 + 1 + 1, 0, none⟩ (.int .u64 0)).setCell ⟨w.heap.size + 1 + 1 + 1, 1, none⟩ (.slice none 0 0)).setCell ⟨w.heap.size + 1 + 1 + 1, 2, none⟩ (.bool true)) _ _ _ _ at hfw
  have p0 : wx.cell? ⟨w.heap.size + 1 + 1 + 1, 0, none⟩ = some (.int .u64 0) := by simp [World.cell?, hgP]
  have pf0 : wx.frozen? ⟨w.heap.size + 1 + 1 + 1, 0, none⟩ = false := by simp [World.frozen?, hgP]
  have p1 : wx.cell? ⟨w.heap.size + 1 + 1 + 1, 1, none⟩ = some (.slice none 0 0) := by simp [World.cell?, hgP]
  have pf1 : wx.frozen? ⟨w.heap.size + 1 + 1 + 1, 1, none⟩ = false := by simp [World.frozen?, hgP]
  have p2 : wx.cell? ⟨w.heap.size + 1 + 1 + 1, 2, none⟩ = some (.bool false) := by simp [World.cell?, hgP]
  have pf2 : wx.frozen? ⟨w.heap.size + 1 + 1 + 1, 2, none⟩ = false := by simp [World.frozen?, hgP]
  clear hx hxs hbut hdk hby hwv
  go_wp2
  generalize (((wx.setCell ⟨w.heap.size + 1 + 1 + 1, 0, none⟩ (.int .u64 0)).setCell ⟨w.heap.size + 1 + 1 + 1, 1, none⟩ (.slice none 0 0)).setCell ⟨w.heap.size + 1 + 1 + 1, 2, none⟩ (.bool true)) = wf at *
  clear p0 p1 p2 pf0 pf1 pf2
  have o0 : wf.cell? ⟨w.heap.size + 1 + 1, 0, none⟩ = some (.int .i64 T) := by simp [World.cell?, hfO]
  have o1 : wf.cell? ⟨w.heap.size + 1 + 1, 1, none⟩ = some (.int .i64 C) := by simp [World.cell?, hfO]
  have o2 : wf.cell? ⟨w.heap.size + 1 + 1, 2, none⟩ = some (.slice A q c) := by simp [World.cell?, hfO]
  have o3 : wf.cell? ⟨w.heap.size + 1 + 1, 3, none⟩ = some (.int .u64 (RN : Int)) := by simp [World.cell?, hfO]
  have o4 : wf.cell? ⟨w.heap.size + 1 + 1, 4, none⟩ = some (.slice A0 n c0) := by simp [World.cell?, hfO]
  have o5 : wf.cell? ⟨w.heap.size + 1 + 1, 5, none⟩ = some (.slice A1 n c1) := by simp [World.cell?, hfO]
  have p0 : wf.cell? ⟨w.heap.size + 1 + 1 + 1, 0, none⟩ = some (.int .u64 0) := by simp [World.cell?, hfP]
  have p1 : wf.cell? ⟨w.heap.size + 1 + 1 + 1, 1, none⟩ = some (.slice none 0 0) := by simp [World.cell?, hfP]
  have p2 : wf.cell? ⟨w.heap.size + 1 + 1 + 1, 2, none⟩ = some (.bool true) := by simp [World.cell?, hfP]
  refine bodyPost_ret (v := .tuple #[.agg #[.int .i64 T, .int .i64 C, .slice A q c, .int .u64 (RN : Int), .slice A0 n c0, .slice A1 n c1], .agg #[.int .u64 0, .slice none 0 0, .bool true]]) (by simp [results, Try.results24, go_sem, o0, o1, o2, o3, o4, o5, p0, p1, p2]) rfl ⟨_, _, rfl, ⟨_, _, _, _, _, _, _, rfl, hfw, hfd⟩, ⟨_, _, _, rfl, hfb⟩, hF⟩
set_option maxRecDepth 100000 in
set_option maxHeartbeats 1000000 in
theorem do_disk (T C : Int) (A : Option Addr) (q c : Nat) (ws : List Int) (RN n : Nat) (A0 A1 : Option Addr) (c0 c1 : Nat) (K0 K1 : List Key) (me k ce a b : Int) (D : Option Addr) (m cd : Nat) (B : Option Addr) (q2 cb : Nat) (dat : List UInt8) (wd : List Int) (w : World) (hA : WordsV w A q c ws) (hd : DkK w (.agg #[.int .u64 (RN : Int), .slice A0 n c0, .slice A1 n c1]) (RN : Int) n K0 K1)
  (hB : BytesV w D m cd dat) (hwd : WordsV w B q2 cb wd) (ha : 0 ≤ a ∧ a < 18446744073709551616) (hb : 0 ≤ b ∧ b < 18446744073709551616) {mF : Nat} (hF : Fit ⟨T, C, ws, RN, n, K0, K1⟩ mF) (hk : diskKind k = true) (hmF : m = mF) :
  Calls Try.prog 24 #[.agg #[.int .i64 T, .int .i64 C, .slice A q c, .int .u64 (RN : Int), .slice A0 n c0, .slice A1 n c1], .int .i64 me, .agg #[.int .i64 k, .int .i64 ce, .int .u64 a, .int .u64 b, .slice D m cd, .slice B q2 cb], .bool false] w (DoPost (⟨T, C, ws, strRoot (RN : Int) ⟨k, ce, a, b, dat, wd⟩, n, strK0 (RN : Int) n me ⟨k, ce, a, b, dat, wd⟩ K0, strK1 (RN : Int) n me ⟨k, ce, a, b, dat, wd⟩ K1⟩ : WldK) (strR (RN : Int) ⟨k, ce, a, b, dat, wd⟩ K0 K1) w) := by
 have hlen := hA.len
 have hlen2 := hwd.len
 have hpos : 0 < n := hF.pos
 have hn : n ≤ 64 := hF.le
 have hR : RN < 18446744073709551616 := by have := hF.root.2; simp only at this; omega
 have hws2 : 2 ≤ ws.length := hF.ws.1
 have hws6 : ws.length ≤ 65536 := hF.ws.2
 have hm0 : ∀ x ∈ K0, x.1.length + mF ≤ 65536 := hF.k0
 have hm1 : ∀ x ∈ K1, x.1.length + mF ≤ 65536 := hF.k1
 clear hF
 subst hmF
 go_enter Try.func24, Try.ntmps24
 go_upto_region 3 with (fail)
 obtain ⟨hW, hE, hG, hO, hP, hQ⟩ := boxes5 w (.cells #[.int .i64 T, .int .i64 C, .slice A q c, .int .u64 (RN : Int), .slice A0 n c0, .slice A1 n c1] 51) (.cells #[.int .i64 k, .int .i64 ce, .int .u64 a, .int .u64 b, .slice D m cd, .slice B q2 cb] 33) (.cells #[.int .i64 0, .int .i64 0, .slice none 0 0, .int .u64 0, .slice none 0 0, .slice none 0 0] 51) (.cells #[.int .u64 0, .slice none 0 0, .bool false] 59) (.cells #[.int .u64 0, .slice none 0 0, .bool false] 59)
 generalize ((((w.alloc (.cells #[.int .i64 T, .int .i64 C, .slice A q c, .int .u64 (RN : Int), .slice A0 n c0, .slice A1 n c1] 51)).alloc (.cells #[.int .i64 k, .int .i64 ce, .int .u64 a, .int .u64 b, .slice D m cd, .slice B q2 cb] 33)).alloc (.cells #[.int .i64 0, .int .i64 0, .slice none 0 0, .int .u64 0, .slice none 0 0, .slice none 0 0] 51)).alloc (.cells #[.int .u64 0, .slice none 0 0, .bool false] 59)).alloc (.cells #[.int .u64 0, .slice none 0 0, .bool false] 59) = W at *
 have hlt : w.heap.size + 1 + 1 + 1 + 1 < W.heap.size := (Array.getElem?_eq_some_iff.1 hQ).1
 have e0 : W.cell? ⟨w.heap.size, 0, none⟩ = some (.int .i64 T) := by simp [World.cell?, hE]
 have ef0 : W.frozen? ⟨w.heap.size, 0, none⟩ = false := by simp [World.frozen?, hE]
 have e1 : W.cell? ⟨w.heap.size, 1, none⟩ = some (.int .i64 C) := by simp [World.cell?, hE]
 have ef1 : W.frozen? ⟨w.heap.size, 1, none⟩ = false := by simp [World.frozen?, hE]
 have e2 : W.cell? ⟨w.heap.size, 2, none⟩ = some (.slice A q c) := by simp [World.cell?, hE]
 have ef2 : W.frozen? ⟨w.heap.size, 2, none⟩ = false := by simp [World.frozen?, hE]
 have e3 : W.cell? ⟨w.heap.size, 3, none⟩ = some (.int .u64 (RN : Int)) := by simp [World.cell?, hE]
 have ef3 : W.frozen? ⟨w.heap.size, 3, none⟩ = false := by simp [World.frozen?, hE]
 have e4 : W.cell? ⟨w.heap.size, 4, none⟩ = some (.slice A0 n c0) := by simp [World.cell?, hE]
 have ef4 : W.frozen? ⟨w.heap.size, 4, none⟩ = false := by simp [World.frozen?, hE]
 have e5 : W.cell? ⟨w.heap.size, 5, none⟩ = some (.slice A1 n c1) := by simp [World.cell?, hE]
 have ef5 : W.frozen? ⟨w.heap.size, 5, none⟩ = false := by simp [World.frozen?, hE]
 have g0 : W.cell? ⟨w.heap.size + 1, 0, none⟩ = some (.int .i64 k) := by simp [World.cell?, hG]
 have g1 : W.cell? ⟨w.heap.size + 1, 1, none⟩ = some (.int .i64 ce) := by simp [World.cell?, hG]
 have g2 : W.cell? ⟨w.heap.size + 1, 2, none⟩ = some (.int .u64 a) := by simp [World.cell?, hG]
 have g3 : W.cell? ⟨w.heap.size + 1, 3, none⟩ = some (.int .u64 b) := by simp [World.cell?, hG]
 have g4 : W.cell? ⟨w.heap.size + 1, 4, none⟩ = some (.slice D m cd) := by simp [World.cell?, hG]
 have g5 : W.cell? ⟨w.heap.size + 1, 5, none⟩ = some (.slice B q2 cb) := by simp [World.cell?, hG]
 have z0 : W.cell? ⟨w.heap.size + 1 + 1 + 1 + 1, 0, none⟩ = some (.int .u64 0) := by simp [World.cell?, hQ]
 have zf0 : W.frozen? ⟨w.heap.size + 1 + 1 + 1 + 1, 0, none⟩ = false := by simp [World.frozen?, hQ]
 have z1 : W.cell? ⟨w.heap.size + 1 + 1 + 1 + 1, 1, none⟩ = some (.slice none 0 0) := by simp [World.cell?, hQ]
 have zf1 : W.frozen? ⟨w.heap.size + 1 + 1 + 1 + 1, 1, none⟩ = false := by simp [World.frozen?, hQ]
 have z2 : W.cell? ⟨w.heap.size + 1 + 1 + 1 + 1, 2, none⟩ = some (.bool false) := by simp [World.cell?, hQ]
 have zf2 : W.frozen? ⟨w.heap.size + 1 + 1 + 1 + 1, 2, none⟩ = false := by simp [World.frozen?, hQ]
 go_wp2_with fail
 refine (adisk_any k _).mono ?_
 rintro e w1 ⟨rfl, rfl⟩
 rw [hk]
 go_wp2_with fail
 refine (adisk_any k _).mono ?_
 rintro e w1 ⟨rfl, rfl⟩
 rw [hk]
 go_wp2_with fail
 refine (streams_any RN n A0 A1 c0 c1 K0 K1 me k ce a b D m cd B q2 cb dat wd _ (hd.ext hW) hR hpos hn (hB.ext hW) hm0 hm1 hk).mono ?_
 rintro e w3 ⟨v', r', rfl, hdk, hres, hx⟩
 generalize strRoot (RN : Int) ⟨k, ce, a, b, dat, wd⟩ = RZ at *
 obtain ⟨X0, X1, y0, y1, rfl⟩ := hdk.form
 generalize strR (RN : Int) ⟨k, ce, a, b, dat, wd⟩ K0 K1 = rr at *
 obtain ⟨rN, rb, rf⟩ := rr
 obtain ⟨E, qb, eb, rfl, hby⟩ := hres
 simp only at hby
 replace hE := heap_ext hE hx
 replace hG := heap_ext hG hx
 replace hO := heap_ext hO hx
 replace hP := heap_ext hP hx
 replace hQ := heap_ext hQ hx
 replace hW := hW.trans hx
 clear e0 e1 e2 e3 e4 e5 ef0 ef1 ef2 ef3 ef4 ef5 g0 g1 g2 g3 g4 g5 z0 z1 z2 zf0 zf1 zf2
 clear hx
 have e0 : w3.cell? ⟨w.heap.size, 0, none⟩ = some (.int .i64 T) := by simp [World.cell?, hE]
 have ef0 : w3.frozen? ⟨w.heap.size, 0, none⟩ = false := by simp [World.frozen?, hE]
 have e1 : w3.cell? ⟨w.heap.size, 1, none⟩ = some (.int .i64 C) := by simp [World.cell?, hE]
 have ef1 : w3.frozen? ⟨w.heap.size, 1, none⟩ = false := by simp [World.frozen?, hE]
 have e2 : w3.cell? ⟨w.heap.size, 2, none⟩ = some (.slice A q c) := by simp [World.cell?, hE]
 have ef2 : w3.frozen? ⟨w.heap.size, 2, none⟩ = false := by simp [World.frozen?, hE]
 have e3 : w3.cell? ⟨w.heap.size, 3, none⟩ = some (.int .u64 (RN : Int)) := by simp [World.cell?, hE]
 have ef3 : w3.frozen? ⟨w.heap.size, 3, none⟩ = false := by simp [World.frozen?, hE]
 have e4 : w3.cell? ⟨w.heap.size, 4, none⟩ = some (.slice A0 n c0) := by simp [World.cell?, hE]
 have ef4 : w3.frozen? ⟨w.heap.size, 4, none⟩ = false := by simp [World.frozen?, hE]
 have e5 : w3.cell? ⟨w.heap.size, 5, none⟩ = some (.slice A1 n c1) := by simp [World.cell?, hE]
 have ef5 : w3.frozen? ⟨w.heap.size, 5, none⟩ = false := by simp [World.frozen?, hE]
 have z0 : w3.cell? ⟨w.heap.size + 1 + 1 + 1 + 1, 0, none⟩ = some (.int .u64 0) := by simp [World.cell?, hQ]
 have zf0 : w3.frozen? ⟨w.heap.size + 1 + 1 + 1 + 1, 0, none⟩ = false := by simp [World.frozen?, hQ]
 have z1 : w3.cell? ⟨w.heap.size + 1 + 1 + 1 + 1, 1, none⟩ = some (.slice none 0 0) := by simp [World.cell?, hQ]
 have zf1 : w3.frozen? ⟨w.heap.size + 1 + 1 + 1 + 1, 1, none⟩ = false := by simp [World.frozen?, hQ]
 have z2 : w3.cell? ⟨w.heap.size + 1 + 1 + 1 + 1, 2, none⟩ = some (.bool false) := by simp [World.cell?, hQ]
 have zf2 : w3.frozen? ⟨w.heap.size + 1 + 1 + 1 + 1, 2, none⟩ = false := by simp [World.frozen?, hQ]
 go_upto_region 10 with (fail)
 have hE3 : ((((((w3.setCell ⟨w.heap.size, 3, none⟩ (.int .u64 RZ)).setCell ⟨w.heap.size, 4, none⟩ (.slice X0 n y0)).setCell ⟨w.heap.size, 5, none⟩ (.slice X1 n y1)).setCell ⟨w.heap.size + 1 + 1 + 1 + 1, 0, none⟩ (.int .u64 rN)).setCell ⟨w.heap.size + 1 + 1 + 1 + 1, 1, none⟩ (.slice E qb eb)).setCell ⟨w.heap.size + 1 + 1 + 1 + 1, 2, none⟩ (.bool rf)).heap[w.heap.size]? = some (.cells #[.int .i64 T, .int .i64 C, .slice A q c, .int .u64 RZ, .slice X0 n y0, .slice X1 n y1] 51 (0, 0)) := (setAll_other (g := w.heap.size + 1 + 1 + 1 + 1) (by omega) [.int .u64 rN, .slice E qb eb, .bool rf] 0 _).trans (heap_setCell_at (heap_setCell_at (heap_setCell_at hE)))
 have hO3 : ((((((w3.setCell ⟨w.heap.size, 3, none⟩ (.int .u64 RZ)).setCell ⟨w.heap.size, 4, none⟩ (.slice X0 n y0)).setCell ⟨w.heap.size, 5, none⟩ (.slice X1 n y1)).setCell ⟨w.heap.size + 1 + 1 + 1 + 1, 0, none⟩ (.int .u64 rN)).setCell ⟨w.heap.size + 1 + 1 + 1 + 1, 1, none⟩ (.slice E qb eb)).setCell ⟨w.heap.size + 1 + 1 + 1 + 1, 2, none⟩ (.bool rf)).heap[w.heap.size + 1 + 1]? = some (.cells #[.int .i64 0, .int .i64 0, .slice none 0 0, .int .u64 0, .slice none 0 0, .slice none 0 0] 51 (0, 0)) := (setAll_other (g := w.heap.size + 1 + 1 + 1 + 1) (by omega) [.int .u64 rN, .slice E qb eb, .bool rf] 0 _).trans ((setAll_other (g := w.heap.size) (by omega) [.int .u64 RZ, .slice X0 n y0, .slice X1 n y1] 3 w3).trans hO)
 have hP3 : ((((((w3.setCell ⟨w.heap.size, 3, none⟩ (.int .u64 RZ)).setCell ⟨w.heap.size, 4, none⟩ (.slice X0 n y0)).setCell ⟨w.heap.size, 5, none⟩ (.slice X1 n y1)).setCell ⟨w.heap.size + 1 + 1 + 1 + 1, 0, none⟩ (.int .u64 rN)).setCell ⟨w.heap.size + 1 + 1 + 1 + 1, 1, none⟩ (.slice E qb eb)).setCell ⟨w.heap.size + 1 + 1 + 1 + 1, 2, none⟩ (.bool rf)).heap[w.heap.size + 1 + 1 + 1]? = some (.cells #[.int .u64 0, .slice none 0 0, .bool false] 59 (0, 0)) := (setAll_other (g := w.heap.size + 1 + 1 + 1 + 1) (by omega) [.int .u64 rN, .slice E qb eb, .bool rf] 0 _).trans ((setAll_other (g := w.heap.size) (by omega) [.int .u64 RZ, .slice X0 n y0, .slice X1 n y1] 3 w3).trans hP)
 have hQ3 : ((((((w3.setCell ⟨w.heap.size, 3, none⟩ (.int .u64 RZ)).setCell ⟨w.heap.size, 4, none⟩ (.slice X0 n y0)).setCell ⟨w.heap.size, 5, none⟩ (.slice X1 n y1)).setCell ⟨w.heap.size + 1 + 1 + 1 + 1, 0, none⟩ (.int .u64 rN)).setCell ⟨w.heap.size + 1 + 1 + 1 + 1, 1, none⟩ (.slice E qb eb)).setCell ⟨w.heap.size + 1 + 1 + 1 + 1, 2, none⟩ (.bool rf)).heap[w.heap.size + 1 + 1 + 1 + 1]? = some (.cells #[.int .u64 rN, .slice E qb eb, .bool rf] 59 (0, 0)) := setAll_all (vs := [.int .u64 rN, .slice E qb eb, .bool rf]) ((setAll_other (g := w.heap.size) (by omega) [.int .u64 RZ, .slice X0 n y0, .slice X1 n y1] 3 w3).trans hQ) rfl
 have hW3 : Ext w ((((((w3.setCell ⟨w.heap.size, 3, none⟩ (.int .u64 RZ)).setCell ⟨w.heap.size, 4, none⟩ (.slice X0 n y0)).setCell ⟨w.heap.size, 5, none⟩ (.slice X1 n y1)).setCell ⟨w.heap.size + 1 + 1 + 1 + 1, 0, none⟩ (.int .u64 rN)).setCell ⟨w.heap.size + 1 + 1 + 1 + 1, 1, none⟩ (.slice E qb eb)).setCell ⟨w.heap.size + 1 + 1 + 1 + 1, 2, none⟩ (.bool rf)) := setAll_ext (g := w.heap.size + 1 + 1 + 1 + 1) (vs := [.int .u64 rN, .slice E qb eb, .bool rf]) (i := 0) (setAll_ext (g := w.heap.size) (vs := [.int .u64 RZ, .slice X0 n y0, .slice X1 n y1]) (i := 3) hW (Nat.le_refl _)) (by omega)
 have hQm : (setAll (w.heap.size) 3 [.int .u64 RZ, .slice X0 n y0, .slice X1 n y1] w3).heap[w.heap.size + 1 + 1 + 1 + 1]? = some (.cells #[.int .u64 0, .slice none 0 0, .bool false] 59 (0, 0)) := (setAll_other (g := w.heap.size) (by omega) [.int .u64 RZ, .slice X0 n y0, .slice X1 n y1] 3 w3).trans hQ
 replace hdk := (hdk.but (But.all w.heap.size [.int .u64 RZ, .slice X0 n y0, .slice X1 n y1] 3 w3) hE rfl).but (But.all (w.heap.size + 1 + 1 + 1 + 1) [.int .u64 rN, .slice E qb eb, .bool rf] 0 _) hQm rfl
 replace hby := BytesV.but (BytesV.but hby (But.all w.heap.size [.int .u64 RZ, .slice X0 n y0, .slice X1 n y1] 3 w3) hE rfl) (But.all (w.heap.size + 1 + 1 + 1 + 1) [.int .u64 rN, .slice E qb eb, .bool rf] 0 _) hQm rfl
 change DkK ((((((w3.setCell ⟨w.heap.size, 3, none⟩ (.int .u64 RZ)).setCell ⟨w.heap.size, 4, none⟩ (.slice X0 n y0)).setCell ⟨w.heap.size, 5, none⟩ (.slice X1 n y1)).setCell ⟨w.heap.size + 1 + 1 + 1 + 1, 0, none⟩ (.int .u64 rN)).setCell ⟨w.heap.size + 1 + 1 + 1 + 1, 1, none⟩ (.slice E qb eb)).setCell ⟨w.heap.size + 1 + 1 + 1 + 1, 2, none⟩ (.bool rf)) _ _ _ _ _ at hdk
 change BytesV ((((((w3.setCell ⟨w.heap.size, 3, none⟩ (.int .u64 RZ)).setCell ⟨w.heap.size, 4, none⟩ (.slice X0 n y0)).setCell ⟨w.heap.size, 5, none⟩ (.slice X1 n y1)).setCell ⟨w.heap.size + 1 + 1 + 1 + 1, 0, none⟩ (.int .u64 rN)).setCell ⟨w.heap.size + 1 + 1 + 1 + 1, 1, none⟩ (.slice E qb eb)).setCell ⟨w.heap.size + 1 + 1 + 1 + 1, 2, none⟩ (.bool rf)) _ _ _ _ at hby
 clear hQm
 clear e0 e1 e2 e3 e4 e5 ef0 ef1 ef2 ef3 ef4 ef5 z0 z1 z2 zf0 zf1 zf2
 clear hE hG hO hP hQ hW
 generalize ((((((w3.setCell ⟨w.heap.size, 3, none⟩ (.int .u64 RZ)).setCell ⟨w.heap.size, 4, none⟩ (.slice X0 n y0)).setCell ⟨w.heap.size, 5, none⟩ (.slice X1 n y1)).setCell ⟨w.heap.size + 1 + 1 + 1 + 1, 0, none⟩ (.int .u64 rN)).setCell ⟨w.heap.size + 1 + 1 + 1 + 1, 1, none⟩ (.slice E qb eb)).setCell ⟨w.heap.size + 1 + 1 + 1 + 1, 2, none⟩ (.bool rf)) = w4 at *
 have hwv := hA.ext hW3
 have hwl := hws2
 have HE := Lib.hid hE3
 have HO := Lib.hid hO3
 have HP := Lib.hid hP3
 have HQ := Lib.hid hQ3
 have HW := Lib.hid hW3
 clear hE3 hO3 hP3 hQ3 hW3 hlt
 obtain ⟨gOO, hOO⟩ : ∃ g, g = w.heap.size + 1 + 1 := ⟨_, rfl⟩
 refine' SB.wp_region_sure (gx := [(2, gOO)]) (Pn := fun _ _ => False) ⟨[(some 57, [], none), (some 58, [], none), (none, [0, 0], none), (none, [1, 2, 0, 1, 2], none)], [0, 0, 1, 7], [none, none, some []], [2]⟩ 3 59 [(0, 57), (1, 58)] [(0, 57), (1, 58)] [.det _, .det _, SB.Good.of (fun v w => w.heap[gOO]? = some (.cells #[.int .i64 T, .int .i64 C, .slice A q c, .int .u64 RZ, .slice X0 n y0, .slice X1 n y1] 51 (0, 0))) (fun v w w' h hx => heap_ext h hx)] (by kernel_rfl) ?hpan (by kernel_rfl) (by kernel_rfl) rfl (by kernel_rfl) (by kernel_rfl) rfl ?hone ?hend
 case hpan =>
  intro _ _ _ _ h; exact h.elim
 case hone =>
  intro CS frS VS hCS ha hV
  have qs4 := slot_val (t := 4) ha rfl
  simp only [List.getElem_toArray, List.getElem_cons_succ, List.getElem_cons_zero] at qs4
  have qs8 := slot_val (t := 8) ha rfl
  simp only [List.getElem_toArray, List.getElem_cons_succ, List.getElem_cons_zero] at qs8
  have qs10 := slot_val (t := 10) ha rfl
  simp only [List.getElem_toArray, List.getElem_cons_succ, List.getElem_cons_zero] at qs10
  have HCS := Lib.hid hCS
  have HVS := Lib.hid hV
  clear ha hCS hV
  refine SB.sure_det (js := []) (ts := [4]) (gd := none) (bs := []) (SB.place_at HVS.out (k := 0) rfl) (by rw [HCS.out]; kernel_rfl) (by rw [HCS.out]; kernel_rfl) ?_ ?_
  ·intro wx hx ρ hρ hs hf; have hρc := hρ.const; have hρf := hρ.func
   obtain ⟨fx4, -⟩ := hf; rw [qs4] at fx4
   clear hs
   clear HCS HVS qs4 qs8 qs10
   refine SB.run_plain ?_
   have hgd : wx.heap[w.heap.size]? = some (.cells #[.int .i64 T, .int .i64 C, .slice A q c, .int .u64 RZ, .slice X0 n y0, .slice X1 n y1] 51 (0, 0)) := hx.heap HE.out (by simp)
   have hd0 : wx.cell? ⟨w.heap.size, 0, none⟩ = some (.int .i64 T) := by simp [World.cell?, hgd]
   have hd1 : wx.cell? ⟨w.heap.size, 1, none⟩ = some (.int .i64 C) := by simp [World.cell?, hgd]
   have hd2 : wx.cell? ⟨w.heap.size, 2, none⟩ = some (.slice A q c) := by simp [World.cell?, hgd]
   have hd3 : wx.cell? ⟨w.heap.size, 3, none⟩ = some (.int .u64 RZ) := by simp [World.cell?, hgd]
   have hd4 : wx.cell? ⟨w.heap.size, 4, none⟩ = some (.slice X0 n y0) := by simp [World.cell?, hgd]
   have hd5 : wx.cell? ⟨w.heap.size, 5, none⟩ = some (.slice X1 n y1) := by simp [World.cell?, hgd]
   unfold SB.runs
   go_simp
   exact SB.detK.mk
  refine SB.sure_det (js := []) (ts := [10]) (gd := none) (bs := [gOO]) (SB.place_at HVS.out (k := 1) rfl) (by rw [HCS.out]; kernel_rfl) (by rw [HCS.out]; kernel_rfl) ?_ ?_
  ·intro wx hx ρ hρ hs hf; have hρc := hρ.const; have hρf := hρ.func
   obtain ⟨fx10, -⟩ := hf; rw [qs10] at fx10
   clear hs
   clear HCS HVS qs4 qs8 qs10
   refine SB.run_plain ?_
   have hgd : wx.heap[w.heap.size + 1 + 1 + 1 + 1]? = some (.cells #[.int .u64 rN, .slice E qb eb, .bool rf] 59 (0, 0)) := hx.heap HQ.out (by simp; omega)
   have hd0 : wx.cell? ⟨w.heap.size + 1 + 1 + 1 + 1, 0, none⟩ = some (.int .u64 rN) := by simp [World.cell?, hgd]
   have hd1 : wx.cell? ⟨w.heap.size + 1 + 1 + 1 + 1, 1, none⟩ = some (.slice E qb eb) := by simp [World.cell?, hgd]
   have hd2 : wx.cell? ⟨w.heap.size + 1 + 1 + 1 + 1, 2, none⟩ = some (.bool rf) := by simp [World.cell?, hgd]
   unfold SB.runs
   go_simp
   exact SB.detK.mk
  refine SB.sure_wild (js := [(0, 57)]) (ts := [8]) (gd := none) (bs := []) (cs := [gOO]) (SB.place_at HVS.out (k := 2) rfl) (by rw [HCS.out]; kernel_rfl) (by rw [HCS.out]; kernel_rfl) rfl ?_ ?_
  ·intro wx hx ρ hρ hs hf; have hρc := hρ.const; have hρf := hρ.func; obtain ⟨sn0, -⟩ := hs
   obtain ⟨fx8, -⟩ := hf; rw [qs8] at fx8
   rw [SB.place_at HVS.out (k := 0) rfl] at sn0; replace sn0 : ρ (.tmp 57) = _ := sn0
   clear HCS HVS qs4 qs8 qs10
   refine SB.run_plain ?_
   subst hOO
   have hg : wx.heap[w.heap.size + 1 + 1]? = some (.cells #[.int .i64 0, .int .i64 0, .slice none 0 0, .int .u64 0, .slice none 0 0, .slice none 0 0] 51 (0, 0)) := hx.heap HO.out (by simp)
   have f0 : wx.frozen? ⟨w.heap.size + 1 + 1, 0, none⟩ = false := by simp [World.frozen?, hg]
   have c0' : wx.cell? ⟨w.heap.size + 1 + 1, 0, none⟩ = some (.int .i64 0) := by simp [World.cell?, hg]
   have f1 : wx.frozen? ⟨w.heap.size + 1 + 1, 1, none⟩ = false := by simp [World.frozen?, hg]
   have c1' : wx.cell? ⟨w.heap.size + 1 + 1, 1, none⟩ = some (.int .i64 0) := by simp [World.cell?, hg]
   have f2 : wx.frozen? ⟨w.heap.size + 1 + 1, 2, none⟩ = false := by simp [World.frozen?, hg]
   have c2' : wx.cell? ⟨w.heap.size + 1 + 1, 2, none⟩ = some (.slice none 0 0) := by simp [World.cell?, hg]
   have f3 : wx.frozen? ⟨w.heap.size + 1 + 1, 3, none⟩ = false := by simp [World.frozen?, hg]
   have c3' : wx.cell? ⟨w.heap.size + 1 + 1, 3, none⟩ = some (.int .u64 0) := by simp [World.cell?, hg]
   have f4 : wx.frozen? ⟨w.heap.size + 1 + 1, 4, none⟩ = false := by simp [World.frozen?, hg]
   have c4' : wx.cell? ⟨w.heap.size + 1 + 1, 4, none⟩ = some (.slice none 0 0) := by simp [World.cell?, hg]
   have f5 : wx.frozen? ⟨w.heap.size + 1 + 1, 5, none⟩ = false := by simp [World.frozen?, hg]
   have c5' : wx.cell? ⟨w.heap.size + 1 + 1, 5, none⟩ = some (.slice none 0 0) := by simp [World.cell?, hg]
   unfold SB.runs
   go_simp
   exact ⟨.ofB (((((((ExtB.refl _ _).set _ _).set _ _).set _ _).set _ _).set _ _).set _ _) (by simp), setAll_all (vs := [.int .i64 T, .int .i64 C, .slice A q c, .int .u64 RZ, .slice X0 n y0, .slice X1 n y1]) hg rfl⟩
  exact trivial
 case hend =>
  intro xs wx hx hg hq
  have gk0 : xs 0 = _ := SB.goods_get hg (i := 0) (j := 0) (d := 57) rfl
  have gk1 : xs 1 = _ := SB.goods_get hg (i := 1) (j := 1) (d := 58) rfl
  obtain ⟨-, gk2⟩ : ∃ v : Value, wx.heap[gOO]? = some (.cells #[.int .i64 T, .int .i64 C, .slice A q c, .int .u64 RZ, .slice X0 n y0, .slice X1 n y1] 51 (0, 0)) := hq 2 (by decide) (by kernel_rfl)
  clear hg hq
  simp only [putAll, gk0, gk1]
  clear gk0 gk1
  clear xs
  simp only [Act.put, List.setIfInBounds_toArray, List.set_cons_zero, List.set_cons_succ, List.drop_succ_cons, List.drop_zero]
  subst hOO
  have hgO := gk2
  have hxs : SB.ExtS [w.heap.size + 1 + 1] w4.drew wx := hx
  have hbut : But (w.heap.size + 1 + 1) w4 wx := But.exts hxs
  have hgP : wx.heap[w.heap.size + 1 + 1 + 1]? = some (.cells #[.int .u64 0, .slice none 0 0, .bool false] 59 (0, 0)) := hbut _ _ (by omega) HP.out
  have hWx : Ext w wx := extS_base HW.out hxs (by omega)
  replace hdk := hdk.but hbut HO.out rfl
  replace hby := BytesV.but hby hbut HO.out rfl
  replace hwv := WordsV.but hwv hwl hbut HO.out rfl
  have hF : Ext w (((wx.setCell ⟨w.heap.size + 1 + 1 + 1, 0, none⟩ (.int .u64 rN)).setCell ⟨w.heap.size + 1 + 1 + 1, 1, none⟩ (.slice E qb eb)).setCell ⟨w.heap.size + 1 + 1 + 1, 2, none⟩ (.bool rf)) := setAll_ext (g := w.heap.size + 1 + 1 + 1) (vs := [.int .u64 rN, .slice E qb eb, .bool rf]) (i := 0) hWx (by omega)
  have hfP : (((wx.setCell ⟨w.heap.size + 1 + 1 + 1, 0, none⟩ (.int .u64 rN)).setCell ⟨w.heap.size + 1 + 1 + 1, 1, none⟩ (.slice E qb eb)).setCell ⟨w.heap.size + 1 + 1 + 1, 2, none⟩ (.bool rf)).heap[w.heap.size + 1 + 1 + 1]? = some (.cells #[.int .u64 rN, .slice E qb eb, .bool rf] 59 (0, 0)) := setAll_all (vs := [.int .u64 rN, .slice E qb eb, .bool rf]) hgP rfl
  have hfO : (((wx.setCell ⟨w.heap.size + 1 + 1 + 1, 0, none⟩ (.int .u64 rN)).setCell ⟨w.heap.size + 1 + 1 + 1, 1, none⟩ (.slice E qb eb)).setCell ⟨w.heap.size + 1 + 1 + 1, 2, none⟩ (.bool rf)).heap[w.heap.size + 1 + 1]? = some (.cells #[.int .i64 T, .int .i64 C, .slice A q c, .int .u64 RZ, .slice X0 n y0, .slice X1 n y1] 51 (0, 0)) := (setAll_other (g := w.heap.size + 1 + 1 + 1) (by omega) [.int .u64 rN, .slice E qb eb, .bool rf] 0 wx).trans hgO
  have hfd := hdk.but (But.all (w.heap.size + 1 + 1 + 1) [.int .u64 rN, .slice E qb eb, .bool rf] 0 wx) hgP rfl
  have hfb := BytesV.but hby (But.all (w.heap.size + 1 + 1 + 1) [.int .u64 rN, .slice E qb eb, .bool rf] 0 wx) hgP rfl
  have hfw := WordsV.but hwv hwl (But.all (w.heap.size + 1 + 1 + 1) [.int .u64 rN, .slice E qb eb, .bool rf] 0 wx) hgP rfl
  change DkK (((wx.setCell ⟨w.heap.size + 1 + 1 + 1, 0, none⟩ (.int .u64 rN)).setCell ⟨w.heap.size + 1 + 1 + 1, 1, none⟩ (.slice E qb eb)).setCell ⟨w.heap.size + 1 + 1 + 1, 2, none⟩ (.bool rf)) _ _ _ _ _ at hfd
  change BytesV (((wx.setCell ⟨w.heap.size + 1 + 1 + 1, 0, none⟩ (.int .u64 rN)).setCell ⟨w.heap.size + 1 + 1 + 1, 1, none⟩ (.slice E qb eb)).setCell ⟨w.heap.size + 1 + 1 + 1, 2, none⟩ (.bool rf)) _ _ _ _ at hfb
  change WordsV (((wx.setCell ⟨w.heap.size + 1 + 1 + 1, 0, none⟩ (.int .u64 rN)).setCell ⟨w.heap.size + 1 + 1 + 1, 1, none⟩ (.slice E qb eb)).setCell ⟨w.heap.size + 1 + 1 + 1, 2, none⟩ (.bool rf)) _ _ _ _ at hfw
  have p0 : wx.cell? ⟨w.heap.size + 1 + 1 + 1, 0, none⟩ = some (.int .u64 0) := by simp [World.cell?, hgP]
  have pf0 : wx.frozen? ⟨w.heap.size + 1 + 1 + 1, 0, none⟩ = false := by simp [World.frozen?, hgP]
  have p1 : wx.cell? ⟨w.heap.size + 1 + 1 + 1, 1, none⟩ = some (.slice none 0 0) := by simp [World.cell?, hgP]
  have pf1 : wx.frozen? ⟨w.heap.size + 1 + 1 + 1, 1, none⟩ = false := by simp [World.frozen?, hgP]
  have p2 : wx.cell? ⟨w.heap.size + 1 + 1 + 1, 2, none⟩ = some (.bool false) := by simp [World.cell?, hgP]
  have pf2 : wx.frozen? ⟨w.heap.size + 1 + 1 + 1, 2, none⟩ = false := by simp [World.frozen?, hgP]
  clear hx hxs hbut hdk hby hwv
  go_wp2
  generalize (((wx.setCell ⟨w.heap.size + 1 + 1 + 1, 0, none⟩ (.int .u64 rN)).setCell ⟨w.heap.size + 1 + 1 + 1, 1, none⟩ (.slice E qb eb)).setCell ⟨w.heap.size + 1 + 1 + 1, 2, none⟩ (.bool rf)) = wf at *
  clear p0 p1 p2 pf0 pf1 pf2
  have o0 : wf.cell? ⟨w.heap.size + 1 + 1, 0, none⟩ = some (.int .i64 T) := by simp [World.cell?, hfO]
  have o1 : wf.cell? ⟨w.heap.size + 1 + 1, 1, none⟩ = some (.int .i64 C) := by simp [World.cell?, hfO]
  have o2 : wf.cell? ⟨w.heap.size + 1 + 1, 2, none⟩ = some (.slice A q c) := by simp [World.cell?, hfO]
  have o3 : wf.cell? ⟨w.heap.size + 1 + 1, 3, none⟩ = some (.int .u64 RZ) := by simp [World.cell?, hfO]
  have o4 : wf.cell? ⟨w.heap.size + 1 + 1, 4, none⟩ = some (.slice X0 n y0) := by simp [World.cell?, hfO]
  have o5 : wf.cell? ⟨w.heap.size + 1 + 1, 5, none⟩ = some (.slice X1 n y1) := by simp [World.cell?, hfO]
  have p0 : wf.cell? ⟨w.heap.size + 1 + 1 + 1, 0, none⟩ = some (.int .u64 rN) := by simp [World.cell?, hfP]
  have p1 : wf.cell? ⟨w.heap.size + 1 + 1 + 1, 1, none⟩ = some (.slice E qb eb) := by simp [World.cell?, hfP]
  have p2 : wf.cell? ⟨w.heap.size + 1 + 1 + 1, 2, none⟩ = some (.bool rf) := by simp [World.cell?, hfP]
  refine bodyPost_ret (v := .tuple #[.agg #[.int .i64 T, .int .i64 C, .slice A q c, .int .u64 RZ, .slice X0 n y0, .slice X1 n y1], .agg #[.int .u64 rN, .slice E qb eb, .bool rf]]) (by simp [results, Try.results24, go_sem, o0, o1, o2, o3, o4, o5, p0, p1, p2]) rfl ⟨_, _, rfl, ⟨_, _, _, _, _, _, _, rfl, hfw, hfd⟩, ⟨_, _, _, rfl, hfb⟩, hF⟩
set_option maxRecDepth 100000 in
set_option maxHeartbeats 1000000 in
theorem do_inst_no (T C : Int) (A : Option Addr) (q c : Nat) (ws : List Int) (RN n : Nat) (A0 A1 : Option Addr) (c0 c1 : Nat) (K0 K1 : List Key) (me k ce a b : Int) (D : Option Addr) (m cd : Nat) (B : Option Addr) (q2 cb : Nat) (dat : List UInt8) (wd : List Int) (w : World) (hA : WordsV w A q c ws) (hd : DkK w (.agg #[.int .u64 (RN : Int), .slice A0 n c0, .slice A1 n c1]) (RN : Int) n K0 K1)
  (hB : BytesV w D m cd dat) (hwd : WordsV w B q2 cb wd) (ha : 0 ≤ a ∧ a < 18446744073709551616) (hb : 0 ≤ b ∧ b < 18446744073709551616) {mF : Nat} (hF : Fit ⟨T, C, ws, RN, n, K0, K1⟩ mF) (fl : Bool) (hk : diskKind 13 = false) (hne : ¬ wd.length = ws.length) :
  Calls Try.prog 24 #[.agg #[.int .i64 T, .int .i64 C, .slice A q c, .int .u64 (RN : Int), .slice A0 n c0, .slice A1 n c1], .int .i64 me, .agg #[.int .i64 13, .int .i64 ce, .int .u64 a, .int .u64 b, .slice D m cd, .slice B q2 cb], .bool fl] w (DoPost (⟨T, C, ws, RN, n, K0, K1⟩ : WldK) ResK.zero w) := by
 have hlen := hA.len
 have hlen2 := hwd.len
 have hpos : 0 < n := hF.pos
 have hn : n ≤ 64 := hF.le
 have hR : RN < 18446744073709551616 := by have := hF.root.2; simp only at this; omega
 have hws2 : 2 ≤ ws.length := hF.ws.1
 have hws6 : ws.length ≤ 65536 := hF.ws.2
 have hm0 : ∀ x ∈ K0, x.1.length + mF ≤ 65536 := hF.k0
 have hm1 : ∀ x ∈ K1, x.1.length + mF ≤ 65536 := hF.k1
 clear hF
 go_enter Try.func24, Try.ntmps24
 go_upto_region 3 with (fail)
 obtain ⟨hW, hE, hG, hO, hP, hQ⟩ := boxes5 w (.cells #[.int .i64 T, .int .i64 C, .slice A q c, .int .u64 (RN : Int), .slice A0 n c0, .slice A1 n c1] 51) (.cells #[.int .i64 13, .int .i64 ce, .int .u64 a, .int .u64 b, .slice D m cd, .slice B q2 cb] 33) (.cells #[.int .i64 0, .int .i64 0, .slice none 0 0, .int .u64 0, .slice none 0 0, .slice none 0 0] 51) (.cells #[.int .u64 0, .slice none 0 0, .bool false] 59) (.cells #[.int .u64 0, .slice none 0 0, .bool false] 59)
 generalize ((((w.alloc (.cells #[.int .i64 T, .int .i64 C, .slice A q c, .int .u64 (RN : Int), .slice A0 n c0, .slice A1 n c1] 51)).alloc (.cells #[.int .i64 13, .int .i64 ce, .int .u64 a, .int .u64 b, .slice D m cd, .slice B q2 cb] 33)).alloc (.cells #[.int .i64 0, .int .i64 0, .slice none 0 0, .int .u64 0, .slice none 0 0, .slice none 0 0] 51)).alloc (.cells #[.int .u64 0, .slice none 0 0, .bool false] 59)).alloc (.cells #[.int .u64 0, .slice none 0 0, .bool false] 59) = W at *
 have hlt : w.heap.size + 1 + 1 + 1 + 1 < W.heap.size := (Array.getElem?_eq_some_iff.1 hQ).1
 have e0 : W.cell? ⟨w.heap.size, 0, none⟩ = some (.int .i64 T) := by simp [World.cell?, hE]
 have ef0 : W.frozen? ⟨w.heap.size, 0, none⟩ = false := by simp [World.frozen?, hE]
 have e1 : W.cell? ⟨w.heap.size, 1, none⟩ = some (.int .i64 C) := by simp [World.cell?, hE]
 have ef1 : W.frozen? ⟨w.heap.size, 1, none⟩ = false := by simp [World.frozen?, hE]
 have e2 : W.cell? ⟨w.heap.size, 2, none⟩ = some (.slice A q c) := by simp [World.cell?, hE]
 have ef2 : W.frozen? ⟨w.heap.size, 2, none⟩ = false := by simp [World.frozen?, hE]
 have e3 : W.cell? ⟨w.heap.size, 3, none⟩ = some (.int .u64 (RN : Int)) := by simp [World.cell?, hE]
 have ef3 : W.frozen? ⟨w.heap.size, 3, none⟩ = false := by simp [World.frozen?, hE]
 have e4 : W.cell? ⟨w.heap.size, 4, none⟩ = some (.slice A0 n c0) := by simp [World.cell?, hE]
 have ef4 : W.frozen? ⟨w.heap.size, 4, none⟩ = false := by simp [World.frozen?, hE]
 have e5 : W.cell? ⟨w.heap.size, 5, none⟩ = some (.slice A1 n c1) := by simp [World.cell?, hE]
 have ef5 : W.frozen? ⟨w.heap.size, 5, none⟩ = false := by simp [World.frozen?, hE]
 have g0 : W.cell? ⟨w.heap.size + 1, 0, none⟩ = some (.int .i64 13) := by simp [World.cell?, hG]
 have g1 : W.cell? ⟨w.heap.size + 1, 1, none⟩ = some (.int .i64 ce) := by simp [World.cell?, hG]
 have g2 : W.cell? ⟨w.heap.size + 1, 2, none⟩ = some (.int .u64 a) := by simp [World.cell?, hG]
 have g3 : W.cell? ⟨w.heap.size + 1, 3, none⟩ = some (.int .u64 b) := by simp [World.cell?, hG]
 have g4 : W.cell? ⟨w.heap.size + 1, 4, none⟩ = some (.slice D m cd) := by simp [World.cell?, hG]
 have g5 : W.cell? ⟨w.heap.size + 1, 5, none⟩ = some (.slice B q2 cb) := by simp [World.cell?, hG]
 have z0 : W.cell? ⟨w.heap.size + 1 + 1 + 1 + 1, 0, none⟩ = some (.int .u64 0) := by simp [World.cell?, hQ]
 have zf0 : W.frozen? ⟨w.heap.size + 1 + 1 + 1 + 1, 0, none⟩ = false := by simp [World.frozen?, hQ]
 have z1 : W.cell? ⟨w.heap.size + 1 + 1 + 1 + 1, 1, none⟩ = some (.slice none 0 0) := by simp [World.cell?, hQ]
 have zf1 : W.frozen? ⟨w.heap.size + 1 + 1 + 1 + 1, 1, none⟩ = false := by simp [World.frozen?, hQ]
 have z2 : W.cell? ⟨w.heap.size + 1 + 1 + 1 + 1, 2, none⟩ = some (.bool false) := by simp [World.cell?, hQ]
 have zf2 : W.frozen? ⟨w.heap.size + 1 + 1 + 1 + 1, 2, none⟩ = false := by simp [World.frozen?, hQ]
 go_wp2_with fail
 refine (adisk_any 13 _).mono ?_
 rintro e w1 ⟨rfl, rfl⟩
 rw [hk]
 go_wp2_with fail
 refine (adisk_any 13 _).mono ?_
 rintro e w1 ⟨rfl, rfl⟩
 rw [hk]
 have hq2 : ¬ (q2 : Int) = (q : Int) := by omega
 go_upto_region 10 with (fail)
 have hE3 := hE
 have hO3 := hO
 have hP3 := hP
 have hQ3 := hQ
 have hW3 := hW
 clear e0 e1 e2 e3 e4 e5 ef0 ef1 ef2 ef3 ef4 ef5 g0 g1 g2 g3 g4 g5 z0 z1 z2 zf0 zf1 zf2
 clear hE hG hO hP hQ hW
 have hdk := hd.ext hW3
 have hwv := hA.ext hW3
 have hby := bytes_nil W
 have hwl := hws2
 have HE := Lib.hid hE3
 have HO := Lib.hid hO3
 have HP := Lib.hid hP3
 have HQ := Lib.hid hQ3
 have HW := Lib.hid hW3
 clear hE3 hO3 hP3 hQ3 hW3 hlt
 obtain ⟨gOO, hOO⟩ : ∃ g, g = w.heap.size + 1 + 1 := ⟨_, rfl⟩
 refine' SB.wp_region_sure (gx := [(2, gOO)]) (Pn := fun _ _ => False) ⟨[(some 57, [], none), (some 58, [], none), (none, [0, 0], none), (none, [1, 2, 0, 1, 2], none)], [0, 0, 1, 7], [none, none, some []], [2]⟩ 3 59 [(0, 57), (1, 58)] [(0, 57), (1, 58)] [.det _, .det _, SB.Good.of (fun v w => w.heap[gOO]? = some (.cells #[.int .i64 T, .int .i64 C, .slice A q c, .int .u64 (RN : Int), .slice A0 n c0, .slice A1 n c1] 51 (0, 0))) (fun v w w' h hx => heap_ext h hx)] (by kernel_rfl) ?hpan (by kernel_rfl) (by kernel_rfl) rfl (by kernel_rfl) (by kernel_rfl) rfl ?hone ?hend
 case hpan =>
  intro _ _ _ _ h; exact h.elim
 case hone =>
  intro CS frS VS hCS ha hV
  have qs4 := slot_val (t := 4) ha rfl
  simp only [List.getElem_toArray, List.getElem_cons_succ, List.getElem_cons_zero] at qs4
  have qs8 := slot_val (t := 8) ha rfl
  simp only [List.getElem_toArray, List.getElem_cons_succ, List.getElem_cons_zero] at qs8
  have qs10 := slot_val (t := 10) ha rfl
  simp only [List.getElem_toArray, List.getElem_cons_succ, List.getElem_cons_zero] at qs10
  have HCS := Lib.hid hCS
  have HVS := Lib.hid hV
  clear ha hCS hV
  refine SB.sure_det (js := []) (ts := [4]) (gd := none) (bs := []) (SB.place_at HVS.out (k := 0) rfl) (by rw [HCS.out]; kernel_rfl) (by rw [HCS.out]; kernel_rfl) ?_ ?_
  ·intro wx hx ρ hρ hs hf; have hρc := hρ.const; have hρf := hρ.func
   obtain ⟨fx4, -⟩ := hf; rw [qs4] at fx4
   clear hs
   clear HCS HVS qs4 qs8 qs10
   refine SB.run_plain ?_
   have hgd : wx.heap[w.heap.size]? = some (.cells #[.int .i64 T, .int .i64 C, .slice A q c, .int .u64 (RN : Int), .slice A0 n c0, .slice A1 n c1] 51 (0, 0)) := hx.heap HE.out (by simp)
   have hd0 : wx.cell? ⟨w.heap.size, 0, none⟩ = some (.int .i64 T) := by simp [World.cell?, hgd]
   have hd1 : wx.cell? ⟨w.heap.size, 1, none⟩ = some (.int .i64 C) := by simp [World.cell?, hgd]
   have hd2 : wx.cell? ⟨w.heap.size, 2, none⟩ = some (.slice A q c) := by simp [World.cell?, hgd]
   have hd3 : wx.cell? ⟨w.heap.size, 3, none⟩ = some (.int .u64 (RN : Int)) := by simp [World.cell?, hgd]
   have hd4 : wx.cell? ⟨w.heap.size, 4, none⟩ = some (.slice A0 n c0) := by simp [World.cell?, hgd]
   have hd5 : wx.cell? ⟨w.heap.size, 5, none⟩ = some (.slice A1 n c1) := by simp [World.cell?, hgd]
   unfold SB.runs
   go_simp
   exact SB.detK.mk
  refine SB.sure_det (js := []) (ts := [10]) (gd := none) (bs := [gOO]) (SB.place_at HVS.out (k := 1) rfl) (by rw [HCS.out]; kernel_rfl) (by rw [HCS.out]; kernel_rfl) ?_ ?_
  ·intro wx hx ρ hρ hs hf; have hρc := hρ.const; have hρf := hρ.func
   obtain ⟨fx10, -⟩ := hf; rw [qs10] at fx10
   clear hs
   clear HCS HVS qs4 qs8 qs10
   refine SB.run_plain ?_
   have hgd : wx.heap[w.heap.size + 1 + 1 + 1 + 1]? = some (.cells #[.int .u64 0, .slice none 0 0, .bool false] 59 (0, 0)) := hx.heap HQ.out (by simp; omega)
   have hd0 : wx.cell? ⟨w.heap.size + 1 + 1 + 1 + 1, 0, none⟩ = some (.int .u64 0) := by simp [World.cell?, hgd]
   have hd1 : wx.cell? ⟨w.heap.size + 1 + 1 + 1 + 1, 1, none⟩ = some (.slice none 0 0) := by simp [World.cell?, hgd]
   have hd2 : wx.cell? ⟨w.heap.size + 1 + 1 + 1 + 1, 2, none⟩ = some (.bool false) := by simp [World.cell?, hgd]
   unfold SB.runs
   go_simp
   exact SB.detK.mk
  refine SB.sure_wild (js := [(0, 57)]) (ts := [8]) (gd := none) (bs := []) (cs := [gOO]) (SB.place_at HVS.out (k := 2) rfl) (by rw [HCS.out]; kernel_rfl) (by rw [HCS.out]; kernel_rfl) rfl ?_ ?_
  ·intro wx hx ρ hρ hs hf; have hρc := hρ.const; have hρf := hρ.func; obtain ⟨sn0, -⟩ := hs
   obtain ⟨fx8, -⟩ := hf; rw [qs8] at fx8
   rw [SB.place_at HVS.out (k := 0) rfl] at sn0; replace sn0 : ρ (.tmp 57) = _ := sn0
   clear HCS HVS qs4 qs8 qs10
   refine SB.run_plain ?_
   subst hOO
   have hg : wx.heap[w.heap.size + 1 + 1]? = some (.cells #[.int .i64 0, .int .i64 0, .slice none 0 0, .int .u64 0, .slice none 0 0, .slice none 0 0] 51 (0, 0)) := hx.heap HO.out (by simp)
   have f0 : wx.frozen? ⟨w.heap.size + 1 + 1, 0, none⟩ = false := by simp [World.frozen?, hg]
   have c0' : wx.cell? ⟨w.heap.size + 1 + 1, 0, none⟩ = some (.int .i64 0) := by simp [World.cell?, hg]
   have f1 : wx.frozen? ⟨w.heap.size + 1 + 1, 1, none⟩ = false := by simp [World.frozen?, hg]
   have c1' : wx.cell? ⟨w.heap.size + 1 + 1, 1, none⟩ = some (.int .i64 0) := by simp [World.cell?, hg]
   have f2 : wx.frozen? ⟨w.heap.size + 1 + 1, 2, none⟩ = false := by simp [World.frozen?, hg]
   have c2' : wx.cell? ⟨w.heap.size + 1 + 1, 2, none⟩ = some (.slice none 0 0) := by simp [World.cell?, hg]
   have f3 : wx.frozen? ⟨w.heap.size + 1 + 1, 3, none⟩ = false := by simp [World.frozen?, hg]
   have c3' : wx.cell? ⟨w.heap.size + 1 + 1, 3, none⟩ = some (.int .u64 0) := by simp [World.cell?, hg]
   have f4 : wx.frozen? ⟨w.heap.size + 1 + 1, 4, none⟩ = false := by simp [World.frozen?, hg]
   have c4' : wx.cell? ⟨w.heap.size + 1 + 1, 4, none⟩ = some (.slice none 0 0) := by simp [World.cell?, hg]
   have f5 : wx.frozen? ⟨w.heap.size + 1 + 1, 5, none⟩ = false := by simp [World.frozen?, hg]
   have c5' : wx.cell? ⟨w.heap.size + 1 + 1, 5, none⟩ = some (.slice none 0 0) := by simp [World.cell?, hg]
   unfold SB.runs
   go_simp
   exact ⟨.ofB (((((((ExtB.refl _ _).set _ _).set _ _).set _ _).set _ _).set _ _).set _ _) (by simp), setAll_all (vs := [.int .i64 T, .int .i64 C, .slice A q c, .int .u64 (RN : Int), .slice A0 n c0, .slice A1 n c1]) hg rfl⟩
  exact trivial
 case hend =>
  intro xs wx hx hg hq
  have gk0 : xs 0 = _ := SB.goods_get hg (i := 0) (j := 0) (d := 57) rfl
  have gk1 : xs 1 = _ := SB.goods_get hg (i := 1) (j := 1) (d := 58) rfl
  obtain ⟨-, gk2⟩ : ∃ v : Value, wx.heap[gOO]? = some (.cells #[.int .i64 T, .int .i64 C, .slice A q c, .int .u64 (RN : Int), .slice A0 n c0, .slice A1 n c1] 51 (0, 0)) := hq 2 (by decide) (by kernel_rfl)
  clear hg hq
  simp only [putAll, gk0, gk1]
  clear gk0 gk1
  clear xs
  simp only [Act.put, List.setIfInBounds_toArray, List.set_cons_zero, List.set_cons_succ, List.drop_succ_cons, List.drop_zero]
  subst hOO
  have hgO := gk2
  have hxs : SB.ExtS [w.heap.size + 1 + 1] W.drew wx := hx
  have hbut : But (w.heap.size + 1 + 1) W wx := But.exts hxs
  have hgP : wx.heap[w.heap.size + 1 + 1 + 1]? = some (.cells #[.int .u64 0, .slice none 0 0, .bool false] 59 (0, 0)) := hbut _ _ (by omega) HP.out
  have hWx : Ext w wx := extS_base HW.out hxs (by omega)
  replace hdk := hdk.but hbut HO.out rfl
  replace hby := BytesV.but hby hbut HO.out rfl
  replace hwv := WordsV.but hwv hwl hbut HO.out rfl
  have hF : Ext w (((wx.setCell ⟨w.heap.size + 1 + 1 + 1, 0, none⟩ (.int .u64 0)).setCell ⟨w.heap.size + 1 + 1 + 1, 1, none⟩ (.slice none 0 0)).setCell ⟨w.heap.size + 1 + 1 + 1, 2, none⟩ (.bool false)) := setAll_ext (g := w.heap.size + 1 + 1 + 1) (vs := [.int .u64 0, .slice none 0 0, .bool false]) (i := 0) hWx (by omega)
  have hfP : (((wx.setCell ⟨w.heap.size + 1 + 1 + 1, 0, none⟩ (.int .u64 0)).setCell ⟨w.heap.size + 1 + 1 + 1, 1, none⟩ (.slice none 0 0)).setCell ⟨w.heap.size + 1 + 1 + 1, 2, none⟩ (.bool false)).heap[w.heap.size + 1 + 1 + 1]? = some (.cells #[.int .u64 0, .slice none 0 0, .bool false] 59 (0, 0)) := setAll_all (vs := [.int .u64 0, .slice none 0 0, .bool false]) hgP rfl
  have hfO : (((wx.setCell ⟨w.heap.size + 1 + 1 + 1, 0, none⟩ (.int .u64 0)).setCell ⟨w.heap.size + 1 + 1 + 1, 1, none⟩ (.slice none 0 0)).setCell ⟨w.heap.size + 1 + 1 + 1, 2, none⟩ (.bool false)).heap[w.heap.size + 1 + 1]? = some (.cells #[.int .i64 T, .int .i64 C, .slice A q c, .int .u64 (RN : Int), .slice A0 n c0, .slice A1 n c1] 51 (0, 0)) := (setAll_other (g := w.heap.size + 1 + 1 + 1) (by omega) [.int .u64 0, .slice none 0 0, .bool false] 0 wx).trans hgO
  have hfd := hdk.but (But.all (w.heap.size + 1 + 1 + 1) [.int .u64 0, .slice none 0 0, .bool false] 0 wx) hgP rfl
  have hfb := BytesV.but hby (But.all (w.heap.size + 1 + 1 + 1) [.int .u64 0, .slice none 0 0, .bool false] 0 wx) hgP rfl
  have hfw := WordsV.but hwv hwl (But.all (w.heap.size + 1 + 1 + 1) [.int .u64 0, .slice none 0 0, .bool false] 0 wx) hgP rfl
  change DkK (((wx.setCell ⟨w.heap.size + 1 + 1 + 1, 0, none⟩ (.int .u64 0)).setCell ⟨w.heap.size + 1 + 1 + 1, 1, none⟩ (.slice none 0 0)).setCell ⟨w.heap.size + 1 + 1 + 1, 2, none⟩ (.bool false)) _ _ _ _ _ at hfd
  change BytesV (((wx.setCell ⟨w.heap.size + 1 + 1 + 1, 0, none⟩ (.int .u64 0)).setCell ⟨w.heap.size + 1 + 1 + 1, 1, none⟩ (.slice none 0 0)).setCell ⟨w.heap.size + 1 + 1 + 1, 2, none⟩ (.bool false)) _ _ _ _ at hfb
  change WordsV (((wx.setCell ⟨w.heap.size + 1 + 1 + 1, 0, none⟩ (.int .u64 0)).setCell ⟨w.heap.size + 1 + 1 + 1, 1, none⟩ (.slice none 0 0)).setCell ⟨w.heap.size + 1 + 1 + 1, 2, none⟩ (.bool false)) _ _ _ _ at hfw
  have p0 : wx.cell? ⟨w.heap.size + 1 + 1 + 1, 0, none⟩ = some (.int .u64 0) := by simp [World.cell?, hgP]
  have pf0 : wx.frozen? ⟨w.heap.size + 1 + 1 + 1, 0, none⟩ = false := by simp [World.frozen?, hgP]
  have p1 : wx.cell? ⟨w.heap.size + 1 + 1 + 1, 1, none⟩ = some (.slice none 0 0) := by simp [World.cell?, hgP]
  have pf1 : wx.frozen? ⟨w.heap.size + 1 + 1 + 1, 1, none⟩ = false := by simp [World.frozen?, hgP]
  have p2 : wx.cell? ⟨w.heap.size + 1 + 1 + 1, 2, none⟩ = some (.bool false) := by simp [World.cell?, hgP]
  have pf2 : wx.frozen? ⟨w.heap.size + 1 + 1 + 1, 2, none⟩ = false := by simp [World.frozen?, hgP]
  clear hx hxs hbut hdk hby hwv
  go_wp2
  generalize (((wx.setCell ⟨w.heap.size + 1 + 1 + 1, 0, none⟩ (.int .u64 0)).setCell ⟨w.heap.size + 1 + 1 + 1, 1, none⟩ (.slice none 0 0)).setCell ⟨w.heap.size + 1 + 1 + 1, 2, none⟩ (.bool false)) = wf at *
  clear p0 p1 p2 pf0 pf1 pf2
  have o0 : wf.cell? ⟨w.heap.size + 1 + 1, 0, none⟩ = some (.int .i64 T) := by simp [World.cell?, hfO]
  have o1 : wf.cell? ⟨w.heap.size + 1 + 1, 1, none⟩ = some (.int .i64 C) := by simp [World.cell?, hfO]
  have o2 : wf.cell? ⟨w.heap.size + 1 + 1, 2, none⟩ = some (.slice A q c) := by simp [World.cell?, hfO]
  have o3 : wf.cell? ⟨w.heap.size + 1 + 1, 3, none⟩ = some (.int .u64 (RN : Int)) := by simp [World.cell?, hfO]
  have o4 : wf.cell? ⟨w.heap.size + 1 + 1, 4, none⟩ = some (.slice A0 n c0) := by simp [World.cell?, hfO]
  have o5 : wf.cell? ⟨w.heap.size + 1 + 1, 5, none⟩ = some (.slice A1 n c1) := by simp [World.cell?, hfO]
  have p0 : wf.cell? ⟨w.heap.size + 1 + 1 + 1, 0, none⟩ = some (.int .u64 0) := by simp [World.cell?, hfP]
  have p1 : wf.cell? ⟨w.heap.size + 1 + 1 + 1, 1, none⟩ = some (.slice none 0 0) := by simp [World.cell?, hfP]
  have p2 : wf.cell? ⟨w.heap.size + 1 + 1 + 1, 2, none⟩ = some (.bool false) := by simp [World.cell?, hfP]
  refine bodyPost_ret (v := .tuple #[.agg #[.int .i64 T, .int .i64 C, .slice A q c, .int .u64 (RN : Int), .slice A0 n c0, .slice A1 n c1], .agg #[.int .u64 0, .slice none 0 0, .bool false]]) (by simp [results, Try.results24, go_sem, o0, o1, o2, o3, o4, o5, p0, p1, p2]) rfl ⟨_, _, rfl, ⟨_, _, _, _, _, _, _, rfl, hfw, hfd⟩, ⟨_, _, _, rfl, hfb⟩, hF⟩
set_option maxRecDepth 100000 in
set_option maxHeartbeats 1000000 in
theorem do_inst_yes (T C : Int) (A : Option Addr) (q c : Nat) (ws : List Int) (RN n : Nat) (A0 A1 : Option Addr) (c0 c1 : Nat) (K0 K1 : List Key) (me k ce a b : Int) (D : Option Addr) (m cd : Nat) (B : Option Addr) (q2 cb : Nat) (dat : List UInt8) (wd : List Int) (w : World) (hA : WordsV w A q c ws) (hd : DkK w (.agg #[.int .u64 (RN : Int), .slice A0 n c0, .slice A1 n c1]) (RN : Int) n K0 K1)
  (hB : BytesV w D m cd dat) (hwd : WordsV w B q2 cb wd) (ha : 0 ≤ a ∧ a < 18446744073709551616) (hb : 0 ≤ b ∧ b < 18446744073709551616) {mF : Nat} (hF : Fit ⟨T, C, ws, RN, n, K0, K1⟩ mF) (fl : Bool) (hk : diskKind 13 = false) (hne : wd.length = ws.length) :
  Calls Try.prog 24 #[.agg #[.int .i64 T, .int .i64 C, .slice A q c, .int .u64 (RN : Int), .slice A0 n c0, .slice A1 n c1], .int .i64 me, .agg #[.int .i64 13, .int .i64 ce, .int .u64 a, .int .u64 b, .slice D m cd, .slice B q2 cb], .bool fl] w (DoPost (⟨T, C, wd, RN, n, K0, K1⟩ : WldK) ResK.zero w) := by
 have hlen := hA.len
 have hlen2 := hwd.len
 have hpos : 0 < n := hF.pos
 have hn : n ≤ 64 := hF.le
 have hR : RN < 18446744073709551616 := by have := hF.root.2; simp only at this; omega
 have hws2 : 2 ≤ ws.length := hF.ws.1
 have hws6 : ws.length ≤ 65536 := hF.ws.2
 have hm0 : ∀ x ∈ K0, x.1.length + mF ≤ 65536 := hF.k0
 have hm1 : ∀ x ∈ K1, x.1.length + mF ≤ 65536 := hF.k1
 clear hF
 go_enter Try.func24, Try.ntmps24
 go_upto_region 3 with (fail)
 obtain ⟨hW, hE, hG, hO, hP, hQ⟩ := boxes5 w (.cells #[.int .i64 T, .int .i64 C, .slice A q c, .int .u64 (RN : Int), .slice A0 n c0, .slice A1 n c1] 51) (.cells #[.int .i64 13, .int .i64 ce, .int .u64 a, .int .u64 b, .slice D m cd, .slice B q2 cb] 33) (.cells #[.int .i64 0, .int .i64 0, .slice none 0 0, .int .u64 0, .slice none 0 0, .slice none 0 0] 51) (.cells #[.int .u64 0, .slice none 0 0, .bool false] 59) (.cells #[.int .u64 0, .slice none 0 0, .bool false] 59)
 generalize ((((w.alloc (.cells #[.int .i64 T, .int .i64 C, .slice A q c, .int .u64 (RN : Int), .slice A0 n c0, .slice A1 n c1] 51)).alloc (.cells #[.int .i64 13, .int .i64 ce, .int .u64 a, .int .u64 b, .slice D m cd, .slice B q2 cb] 33)).alloc (.cells #[.int .i64 0, .int .i64 0, .slice none 0 0, .int .u64 0, .slice none 0 0, .slice none 0 0] 51)).alloc (.cells #[.int .u64 0, .slice none 0 0, .bool false] 59)).alloc (.cells #[.int .u64 0, .slice none 0 0, .bool false] 59) = W at *
 have hlt : w.heap.size + 1 + 1 + 1 + 1 < W.heap.size := (Array.getElem?_eq_some_iff.1 hQ).1
 have e0 : W.cell? ⟨w.heap.size, 0, none⟩ = some (.int .i64 T) := by simp [World.cell?, hE]
 have ef0 : W.frozen? ⟨w.heap.size, 0, none⟩ = false := by simp [World.frozen?, hE]
 have e1 : W.cell? ⟨w.heap.size, 1, none⟩ = some (.int .i64 C) := by simp [World.cell?, hE]
 have ef1 : W.frozen? ⟨w.heap.size, 1, none⟩ = false := by simp [World.frozen?, hE]
 have e2 : W.cell? ⟨w.heap.size, 2, none⟩ = some (.slice A q c) := by simp [World.cell?, hE]
 have ef2 : W.frozen? ⟨w.heap.size, 2, none⟩ = false := by simp [World.frozen?, hE]
 have e3 : W.cell? ⟨w.heap.size, 3, none⟩ = some (.int .u64 (RN : Int)) := by simp [World.cell?, hE]
 have ef3 : W.frozen? ⟨w.heap.size, 3, none⟩ = false := by simp [World.frozen?, hE]
 have e4 : W.cell? ⟨w.heap.size, 4, none⟩ = some (.slice A0 n c0) := by simp [World.cell?, hE]
 have ef4 : W.frozen? ⟨w.heap.size, 4, none⟩ = false := by simp [World.frozen?, hE]
 have e5 : W.cell? ⟨w.heap.size, 5, none⟩ = some (.slice A1 n c1) := by simp [World.cell?, hE]
 have ef5 : W.frozen? ⟨w.heap.size, 5, none⟩ = false := by simp [World.frozen?, hE]
 have g0 : W.cell? ⟨w.heap.size + 1, 0, none⟩ = some (.int .i64 13) := by simp [World.cell?, hG]
 have g1 : W.cell? ⟨w.heap.size + 1, 1, none⟩ = some (.int .i64 ce) := by simp [World.cell?, hG]
 have g2 : W.cell? ⟨w.heap.size + 1, 2, none⟩ = some (.int .u64 a) := by simp [World.cell?, hG]
 have g3 : W.cell? ⟨w.heap.size + 1, 3, none⟩ = some (.int .u64 b) := by simp [World.cell?, hG]
 have g4 : W.cell? ⟨w.heap.size + 1, 4, none⟩ = some (.slice D m cd) := by simp [World.cell?, hG]
 have g5 : W.cell? ⟨w.heap.size + 1, 5, none⟩ = some (.slice B q2 cb) := by simp [World.cell?, hG]
 have z0 : W.cell? ⟨w.heap.size + 1 + 1 + 1 + 1, 0, none⟩ = some (.int .u64 0) := by simp [World.cell?, hQ]
 have zf0 : W.frozen? ⟨w.heap.size + 1 + 1 + 1 + 1, 0, none⟩ = false := by simp [World.frozen?, hQ]
 have z1 : W.cell? ⟨w.heap.size + 1 + 1 + 1 + 1, 1, none⟩ = some (.slice none 0 0) := by simp [World.cell?, hQ]
 have zf1 : W.frozen? ⟨w.heap.size + 1 + 1 + 1 + 1, 1, none⟩ = false := by simp [World.frozen?, hQ]
 have z2 : W.cell? ⟨w.heap.size + 1 + 1 + 1 + 1, 2, none⟩ = some (.bool false) := by simp [World.cell?, hQ]
 have zf2 : W.frozen? ⟨w.heap.size + 1 + 1 + 1 + 1, 2, none⟩ = false := by simp [World.frozen?, hQ]
 go_wp2_with fail
 refine (adisk_any 13 _).mono ?_
 rintro e w1 ⟨rfl, rfl⟩
 rw [hk]
 go_wp2_with fail
 refine (adisk_any 13 _).mono ?_
 rintro e w1 ⟨rfl, rfl⟩
 rw [hk]
 obtain rfl : q2 = q := by omega
 go_wp2_with fail
 refine (clone_words B q2 cb wd _ (hwd.ext hW) (by omega) (by omega)).mono ?_
 rintro e w3 ⟨gN, cN, rfl, hown, hx⟩
 replace hE := heap_ext hE hx
 replace hG := heap_ext hG hx
 replace hO := heap_ext hO hx
 replace hP := heap_ext hP hx
 replace hQ := heap_ext hQ hx
 replace hW := hW.trans hx
 clear e0 e1 e2 e3 e4 e5 ef0 ef1 ef2 ef3 ef4 ef5 g0 g1 g2 g3 g4 g5 z0 z1 z2 zf0 zf1 zf2
 clear hx
 obtain ⟨hgN1, hgN2⟩ := hown.base
 have e0 : w3.cell? ⟨w.heap.size, 0, none⟩ = some (.int .i64 T) := by simp [World.cell?, hE]
 have ef0 : w3.frozen? ⟨w.heap.size, 0, none⟩ = false := by simp [World.frozen?, hE]
 have e1 : w3.cell? ⟨w.heap.size, 1, none⟩ = some (.int .i64 C) := by simp [World.cell?, hE]
 have ef1 : w3.frozen? ⟨w.heap.size, 1, none⟩ = false := by simp [World.frozen?, hE]
 have e2 : w3.cell? ⟨w.heap.size, 2, none⟩ = some (.slice A q2 c) := by simp [World.cell?, hE]
 have ef2 : w3.frozen? ⟨w.heap.size, 2, none⟩ = false := by simp [World.frozen?, hE]
 have e3 : w3.cell? ⟨w.heap.size, 3, none⟩ = some (.int .u64 (RN : Int)) := by simp [World.cell?, hE]
 have ef3 : w3.frozen? ⟨w.heap.size, 3, none⟩ = false := by simp [World.frozen?, hE]
 have e4 : w3.cell? ⟨w.heap.size, 4, none⟩ = some (.slice A0 n c0) := by simp [World.cell?, hE]
 have ef4 : w3.frozen? ⟨w.heap.size, 4, none⟩ = false := by simp [World.frozen?, hE]
 have e5 : w3.cell? ⟨w.heap.size, 5, none⟩ = some (.slice A1 n c1) := by simp [World.cell?, hE]
 have ef5 : w3.frozen? ⟨w.heap.size, 5, none⟩ = false := by simp [World.frozen?, hE]
 go_upto_region 10 with (fail)
 have hE3 : (w3.setCell ⟨w.heap.size, 2, none⟩ (.slice (some ⟨gN, 0, none⟩) q2 cN)).heap[w.heap.size]? = some (.cells #[.int .i64 T, .int .i64 C, .slice (some ⟨gN, 0, none⟩) q2 cN, .int .u64 (RN : Int), .slice A0 n c0, .slice A1 n c1] 51 (0, 0)) := heap_setCell_at hE
 have hO3 : (w3.setCell ⟨w.heap.size, 2, none⟩ (.slice (some ⟨gN, 0, none⟩) q2 cN)).heap[w.heap.size + 1 + 1]? = some (.cells #[.int .i64 0, .int .i64 0, .slice none 0 0, .int .u64 0, .slice none 0 0, .slice none 0 0] 51 (0, 0)) := (Below.heap_setCell _ _ _ _ (by simp <;> omega)).trans hO
 have hP3 : (w3.setCell ⟨w.heap.size, 2, none⟩ (.slice (some ⟨gN, 0, none⟩) q2 cN)).heap[w.heap.size + 1 + 1 + 1]? = some (.cells #[.int .u64 0, .slice none 0 0, .bool false] 59 (0, 0)) := (Below.heap_setCell _ _ _ _ (by simp <;> omega)).trans hP
 have hQ3 : (w3.setCell ⟨w.heap.size, 2, none⟩ (.slice (some ⟨gN, 0, none⟩) q2 cN)).heap[w.heap.size + 1 + 1 + 1 + 1]? = some (.cells #[.int .u64 0, .slice none 0 0, .bool false] 59 (0, 0)) := (Below.heap_setCell _ _ _ _ (by simp <;> omega)).trans hQ
 have hW3 : Ext w (w3.setCell ⟨w.heap.size, 2, none⟩ (.slice (some ⟨gN, 0, none⟩) q2 cN)) := hW.setCell (Nat.le_refl _) _
 have hwl : 2 ≤ wd.length := by omega
 have hwv := (hown.kept (Below.heap_setCell w3 ⟨w.heap.size, 2, none⟩ (.slice (some ⟨gN, 0, none⟩) q2 cN) gN (by simp; omega))).v hwd.rng
 rw [hlen2] at hwv
 clear e0 e1 e2 e3 e4 e5 ef0 ef1 ef2 ef3 ef4 ef5 hE hG hO hP hQ hW hown
 generalize (w3.setCell ⟨w.heap.size, 2, none⟩ (.slice (some ⟨gN, 0, none⟩) q2 cN)) = w4 at *
 have hdk := hd.ext hW3
 have hby := bytes_nil w4
 have HE := Lib.hid hE3
 have HO := Lib.hid hO3
 have HP := Lib.hid hP3
 have HQ := Lib.hid hQ3
 have HW := Lib.hid hW3
 clear hE3 hO3 hP3 hQ3 hW3 hlt
 obtain ⟨gOO, hOO⟩ : ∃ g, g = w.heap.size + 1 + 1 := ⟨_, rfl⟩
 refine' SB.wp_region_sure (gx := [(2, gOO)]) (Pn := fun _ _ => False) ⟨[(some 57, [], none), (some 58, [], none), (none, [0, 0], none), (none, [1, 2, 0, 1, 2], none)], [0, 0, 1, 7], [none, none, some []], [2]⟩ 3 59 [(0, 57), (1, 58)] [(0, 57), (1, 58)] [.det _, .det _, SB.Good.of (fun v w => w.heap[gOO]? = some (.cells #[.int .i64 T, .int .i64 C, .slice (some ⟨gN, 0, none⟩) q2 cN, .int .u64 (RN : Int), .slice A0 n c0, .slice A1 n c1] 51 (0, 0))) (fun v w w' h hx => heap_ext h hx)] (by kernel_rfl) ?hpan (by kernel_rfl) (by kernel_rfl) rfl (by kernel_rfl) (by kernel_rfl) rfl ?hone ?hend
 case hpan =>
  intro _ _ _ _ h; exact h.elim
 case hone =>
  intro CS frS VS hCS ha hV
  have qs4 := slot_val (t := 4) ha rfl
  simp only [List.getElem_toArray, List.getElem_cons_succ, List.getElem_cons_zero] at qs4
  have qs8 := slot_val (t := 8) ha rfl
  simp only [List.getElem_toArray, List.getElem_cons_succ, List.getElem_cons_zero] at qs8
  have qs10 := slot_val (t := 10) ha rfl
  simp only [List.getElem_toArray, List.getElem_cons_succ, List.getElem_cons_zero] at qs10
  have HCS := Lib.hid hCS
  have HVS := Lib.hid hV
  clear ha hCS hV
  refine SB.sure_det (js := []) (ts := [4]) (gd := none) (bs := []) (SB.place_at HVS.out (k := 0) rfl) (by rw [HCS.out]; kernel_rfl) (by rw [HCS.out]; kernel_rfl) ?_ ?_
  ·intro wx hx ρ hρ hs hf; have hρc := hρ.const; have hρf := hρ.func
   obtain ⟨fx4, -⟩ := hf; rw [qs4] at fx4
   clear hs
   clear HCS HVS qs4 qs8 qs10
   refine SB.run_plain ?_
   have hgd : wx.heap[w.heap.size]? = some (.cells #[.int .i64 T, .int .i64 C, .slice (some ⟨gN, 0, none⟩) q2 cN, .int .u64 (RN : Int), .slice A0 n c0, .slice A1 n c1] 51 (0, 0)) := hx.heap HE.out (by simp)
   have hd0 : wx.cell? ⟨w.heap.size, 0, none⟩ = some (.int .i64 T) := by simp [World.cell?, hgd]
   have hd1 : wx.cell? ⟨w.heap.size, 1, none⟩ = some (.int .i64 C) := by simp [World.cell?, hgd]
   have hd2 : wx.cell? ⟨w.heap.size, 2, none⟩ = some (.slice (some ⟨gN, 0, none⟩) q2 cN) := by simp [World.cell?, hgd]
   have hd3 : wx.cell? ⟨w.heap.size, 3, none⟩ = some (.int .u64 (RN : Int)) := by simp [World.cell?, hgd]
   have hd4 : wx.cell? ⟨w.heap.size, 4, none⟩ = some (.slice A0 n c0) := by simp [World.cell?, hgd]
   have hd5 : wx.cell? ⟨w.heap.size, 5, none⟩ = some (.slice A1 n c1) := by simp [World.cell?, hgd]
   unfold SB.runs
   go_simp
   exact SB.detK.mk
  refine SB.sure_det (js := []) (ts := [10]) (gd := none) (bs := [gOO]) (SB.place_at HVS.out (k := 1) rfl) (by rw [HCS.out]; kernel_rfl) (by rw [HCS.out]; kernel_rfl) ?_ ?_
  ·intro wx hx ρ hρ hs hf; have hρc := hρ.const; have hρf := hρ.func
   obtain ⟨fx10, -⟩ := hf; rw [qs10] at fx10
   clear hs
   clear HCS HVS qs4 qs8 qs10
   refine SB.run_plain ?_
   have hgd : wx.heap[w.heap.size + 1 + 1 + 1 + 1]? = some (.cells #[.int .u64 0, .slice none 0 0, .bool false] 59 (0, 0)) := hx.heap HQ.out (by simp; omega)
   have hd0 : wx.cell? ⟨w.heap.size + 1 + 1 + 1 + 1, 0, none⟩ = some (.int .u64 0) := by simp [World.cell?, hgd]
   have hd1 : wx.cell? ⟨w.heap.size + 1 + 1 + 1 + 1, 1, none⟩ = some (.slice none 0 0) := by simp [World.cell?, hgd]
   have hd2 : wx.cell? ⟨w.heap.size + 1 + 1 + 1 + 1, 2, none⟩ = some (.bool false) := by simp [World.cell?, hgd]
   unfold SB.runs
   go_simp
   exact SB.detK.mk
  refine SB.sure_wild (js := [(0, 57)]) (ts := [8]) (gd := none) (bs := []) (cs := [gOO]) (SB.place_at HVS.out (k := 2) rfl) (by rw [HCS.out]; kernel_rfl) (by rw [HCS.out]; kernel_rfl) rfl ?_ ?_
  ·intro wx hx ρ hρ hs hf; have hρc := hρ.const; have hρf := hρ.func; obtain ⟨sn0, -⟩ := hs
   obtain ⟨fx8, -⟩ := hf; rw [qs8] at fx8
   rw [SB.place_at HVS.out (k := 0) rfl] at sn0; replace sn0 : ρ (.tmp 57) = _ := sn0
   clear HCS HVS qs4 qs8 qs10
   refine SB.run_plain ?_
   subst hOO
   have hg : wx.heap[w.heap.size + 1 + 1]? = some (.cells #[.int .i64 0, .int .i64 0, .slice none 0 0, .int .u64 0, .slice none 0 0, .slice none 0 0] 51 (0, 0)) := hx.heap HO.out (by simp)
   have f0 : wx.frozen? ⟨w.heap.size + 1 + 1, 0, none⟩ = false := by simp [World.frozen?, hg]
   have c0' : wx.cell? ⟨w.heap.size + 1 + 1, 0, none⟩ = some (.int .i64 0) := by simp [World.cell?, hg]
   have f1 : wx.frozen? ⟨w.heap.size + 1 + 1, 1, none⟩ = false := by simp [World.frozen?, hg]
   have c1' : wx.cell? ⟨w.heap.size + 1 + 1, 1, none⟩ = some (.int .i64 0) := by simp [World.cell?, hg]
   have f2 : wx.frozen? ⟨w.heap.size + 1 + 1, 2, none⟩ = false := by simp [World.frozen?, hg]
   have c2' : wx.cell? ⟨w.heap.size + 1 + 1, 2, none⟩ = some (.slice none 0 0) := by simp [World.cell?, hg]
   have f3 : wx.frozen? ⟨w.heap.size + 1 + 1, 3, none⟩ = false := by simp [World.frozen?, hg]
   have c3' : wx.cell? ⟨w.heap.size + 1 + 1, 3, none⟩ = some (.int .u64 0) := by simp [World.cell?, hg]
   have f4 : wx.frozen? ⟨w.heap.size + 1 + 1, 4, none⟩ = false := by simp [World.frozen?, hg]
   have c4' : wx.cell? ⟨w.heap.size + 1 + 1, 4, none⟩ = some (.slice none 0 0) := by simp [World.cell?, hg]
   have f5 : wx.frozen? ⟨w.heap.size + 1 + 1, 5, none⟩ = false := by simp [World.frozen?, hg]
   have c5' : wx.cell? ⟨w.heap.size + 1 + 1, 5, none⟩ = some (.slice none 0 0) := by simp [World.cell?, hg]
   unfold SB.runs
   go_simp
   exact ⟨.ofB (((((((ExtB.refl _ _).set _ _).set _ _).set _ _).set _ _).set _ _).set _ _) (by simp), setAll_all (vs := [.int .i64 T, .int .i64 C, .slice (some ⟨gN, 0, none⟩) q2 cN, .int .u64 (RN : Int), .slice A0 n c0, .slice A1 n c1]) hg rfl⟩
  exact trivial
 case hend =>
  intro xs wx hx hg hq
  have gk0 : xs 0 = _ := SB.goods_get hg (i := 0) (j := 0) (d := 57) rfl
  have gk1 : xs 1 = _ := SB.goods_get hg (i := 1) (j := 1) (d := 58) rfl
  obtain ⟨-, gk2⟩ : ∃ v : Value, wx.heap[gOO]? = some (.cells #[.int .i64 T, .int .i64 C, .slice (some ⟨gN, 0, none⟩) q2 cN, .int .u64 (RN : Int), .slice A0 n c0, .slice A1 n c1] 51 (0, 0)) := hq 2 (by decide) (by kernel_rfl)
  clear hg hq
  simp only [putAll, gk0, gk1]
  clear gk0 gk1
  clear xs
  simp only [Act.put, List.setIfInBounds_toArray, List.set_cons_zero, List.set_cons_succ, List.drop_succ_cons, List.drop_zero]
  subst hOO
  have hgO := gk2
  have hxs : SB.ExtS [w.heap.size + 1 + 1] w4.drew wx := hx
  have hbut : But (w.heap.size + 1 + 1) w4 wx := But.exts hxs
  have hgP : wx.heap[w.heap.size + 1 + 1 + 1]? = some (.cells #[.int .u64 0, .slice none 0 0, .bool false] 59 (0, 0)) := hbut _ _ (by omega) HP.out
  have hWx : Ext w wx := extS_base HW.out hxs (by omega)
  replace hdk := hdk.but hbut HO.out rfl
  replace hby := BytesV.but hby hbut HO.out rfl
  replace hwv := WordsV.but hwv hwl hbut HO.out rfl
  have hF : Ext w (((wx.setCell ⟨w.heap.size + 1 + 1 + 1, 0, none⟩ (.int .u64 0)).setCell ⟨w.heap.size + 1 + 1 + 1, 1, none⟩ (.slice none 0 0)).setCell ⟨w.heap.size + 1 + 1 + 1, 2, none⟩ (.bool false)) := setAll_ext (g := w.heap.size + 1 + 1 + 1) (vs := [.int .u64 0, .slice none 0 0, .bool false]) (i := 0) hWx (by omega)
  have hfP : (((wx.setCell ⟨w.heap.size + 1 + 1 + 1, 0, none⟩ (.int .u64 0)).setCell ⟨w.heap.size + 1 + 1 + 1, 1, none⟩ (.slice none 0 0)).setCell ⟨w.heap.size + 1 + 1 + 1, 2, none⟩ (.bool false)).heap[w.heap.size + 1 + 1 + 1]? = some (.cells #[.int .u64 0, .slice none 0 0, .bool false] 59 (0, 0)) := setAll_all (vs := [.int .u64 0, .slice none 0 0, .bool false]) hgP rfl
  have hfO : (((wx.setCell ⟨w.heap.size + 1 + 1 + 1, 0, none⟩ (.int .u64 0)).setCell ⟨w.heap.size + 1 + 1 + 1, 1, none⟩ (.slice none 0 0)).setCell ⟨w.heap.size + 1 + 1 + 1, 2, none⟩ (.bool false)).heap[w.heap.size + 1 + 1]? = some (.cells #[.int .i64 T, .int .i64 C, .slice (some ⟨gN, 0, none⟩) q2 cN, .int .u64 (RN : Int), .slice A0 n c0, .slice A1 n c1] 51 (0, 0)) := (setAll_other (g := w.heap.size + 1 + 1 + 1) (by omega) [.int .u64 0, .slice none 0 0, .bool false] 0 wx).trans hgO
  have hfd := hdk.but (But.all (w.heap.size + 1 + 1 + 1) [.int .u64 0, .slice none 0 0, .bool false] 0 wx) hgP rfl
  have hfb := BytesV.but hby (But.all (w.heap.size + 1 + 1 + 1) [.int .u64 0, .slice none 0 0, .bool false] 0 wx) hgP rfl
  have hfw := WordsV.but hwv hwl (But.all (w.heap.size + 1 + 1 + 1) [.int .u64 0, .slice none 0 0, .bool false] 0 wx) hgP rfl
  change DkK (((wx.setCell ⟨w.heap.size + 1 + 1 + 1, 0, none⟩ (.int .u64 0)).setCell ⟨w.heap.size + 1 + 1 + 1, 1, none⟩ (.slice none 0 0)).setCell ⟨w.heap.size + 1 + 1 + 1, 2, none⟩ (.bool false)) _ _ _ _ _ at hfd
  change BytesV (((wx.setCell ⟨w.heap.size + 1 + 1 + 1, 0, none⟩ (.int .u64 0)).setCell ⟨w.heap.size + 1 + 1 + 1, 1, none⟩ (.slice none 0 0)).setCell ⟨w.heap.size + 1 + 1 + 1, 2, none⟩ (.bool false)) _ _ _ _ at hfb
  change WordsV (((wx.setCell ⟨w.heap.size + 1 + 1 + 1, 0, none⟩ (.int .u64 0)).setCell ⟨w.heap.size + 1 + 1 + 1, 1, none⟩ (.slice none 0 0)).setCell ⟨w.heap.size + 1 + 1 + 1, 2, none⟩ (.bool false)) _ _ _ _ at hfw
  have p0 : wx.cell? ⟨w.heap.size + 1 + 1 + 1, 0, none⟩ = some (.int .u64 0) := by simp [World.cell?, hgP]
  have pf0 : wx.frozen? ⟨w.heap.size + 1 + 1 + 1, 0, none⟩ = false := by simp [World.frozen?, hgP]
  have p1 : wx.cell? ⟨w.heap.size + 1 + 1 + 1, 1, none⟩ = some (.slice none 0 0) := by simp [World.cell?, hgP]
  have pf1 : wx.frozen? ⟨w.heap.size + 1 + 1 + 1, 1, none⟩ = false := by simp [World.frozen?, hgP]
  have p2 : wx.cell? ⟨w.heap.size + 1 + 1 + 1, 2, none⟩ = some (.bool false) := by simp [World.cell?, hgP]
  have pf2 : wx.frozen? ⟨w.heap.size + 1 + 1 + 1, 2, none⟩ = false := by simp [World.frozen?, hgP]
  clear hx hxs hbut hdk hby hwv
  go_wp2
  generalize (((wx.setCell ⟨w.heap.size + 1 + 1 + 1, 0, none⟩ (.int .u64 0)).setCell ⟨w.heap.size + 1 + 1 + 1, 1, none⟩ (.slice none 0 0)).setCell ⟨w.heap.size + 1 + 1 + 1, 2, none⟩ (.bool false)) = wf at *
  clear p0 p1 p2 pf0 pf1 pf2
  have o0 : wf.cell? ⟨w.heap.size + 1 + 1, 0, none⟩ = some (.int .i64 T) := by simp [World.cell?, hfO]
  have o1 : wf.cell? ⟨w.heap.size + 1 + 1, 1, none⟩ = some (.int .i64 C) := by simp [World.cell?, hfO]
  have o2 : wf.cell? ⟨w.heap.size + 1 + 1, 2, none⟩ = some (.slice (some ⟨gN, 0, none⟩) q2 cN) := by simp [World.cell?, hfO]
  have o3 : wf.cell? ⟨w.heap.size + 1 + 1, 3, none⟩ = some (.int .u64 (RN : Int)) := by simp [World.cell?, hfO]
  have o4 : wf.cell? ⟨w.heap.size + 1 + 1, 4, none⟩ = some (.slice A0 n c0) := by simp [World.cell?, hfO]
  have o5 : wf.cell? ⟨w.heap.size + 1 + 1, 5, none⟩ = some (.slice A1 n c1) := by simp [World.cell?, hfO]
  have p0 : wf.cell? ⟨w.heap.size + 1 + 1 + 1, 0, none⟩ = some (.int .u64 0) := by simp [World.cell?, hfP]
  have p1 : wf.cell? ⟨w.heap.size + 1 + 1 + 1, 1, none⟩ = some (.slice none 0 0) := by simp [World.cell?, hfP]
  have p2 : wf.cell? ⟨w.heap.size + 1 + 1 + 1, 2, none⟩ = some (.bool false) := by simp [World.cell?, hfP]
  refine bodyPost_ret (v := .tuple #[.agg #[.int .i64 T, .int .i64 C, .slice (some ⟨gN, 0, none⟩) q2 cN, .int .u64 (RN : Int), .slice A0 n c0, .slice A1 n c1], .agg #[.int .u64 0, .slice none 0 0, .bool false]]) (by simp [results, Try.results24, go_sem, o0, o1, o2, o3, o4, o5, p0, p1, p2]) rfl ⟨_, _, rfl, ⟨_, _, _, _, _, _, _, rfl, hfw, hfd⟩, ⟨_, _, _, rfl, hfb⟩, hF⟩
set_option maxRecDepth 100000 in
set_option maxHeartbeats 1000000 in
theorem do_word (T C : Int) (A : Option Addr) (q c : Nat) (ws : List Int) (RN n : Nat) (A0 A1 : Option Addr) (c0 c1 : Nat) (K0 K1 : List Key) (me k ce a b : Int) (D : Option Addr) (m cd : Nat) (B : Option Addr) (q2 cb : Nat) (dat : List UInt8) (wd : List Int) (w : World) (hA : WordsV w A q c ws) (hd : DkK w (.agg #[.int .u64 (RN : Int), .slice A0 n c0, .slice A1 n c1]) (RN : Int) n K0 K1)
  (hB : BytesV w D m cd dat) (hwd : WordsV w B q2 cb wd) (ha : 0 ≤ a ∧ a < 18446744073709551616) (hb : 0 ≤ b ∧ b < 18446744073709551616) {mF : Nat} (hF : Fit ⟨T, C, ws, RN, n, K0, K1⟩ mF) (fl : Bool) (hk : diskKind k = false) (h13 : ¬ k = 13) :
  Calls Try.prog 24 #[.agg #[.int .i64 T, .int .i64 C, .slice A q c, .int .u64 (RN : Int), .slice A0 n c0, .slice A1 n c1], .int .i64 me, .agg #[.int .i64 k, .int .i64 ce, .int .u64 a, .int .u64 b, .slice D m cd, .slice B q2 cb], .bool fl] w (DoPost (⟨T, C, wordsK ws ⟨k, ce, a, b, dat, wd⟩, RN, n, K0, K1⟩ : WldK) (wordsR ws ⟨k, ce, a, b, dat, wd⟩) w) := by
 have hlen := hA.len
 have hlen2 := hwd.len
 have hpos : 0 < n := hF.pos
 have hn : n ≤ 64 := hF.le
 have hR : RN < 18446744073709551616 := by have := hF.root.2; simp only at this; omega
 have hws2 : 2 ≤ ws.length := hF.ws.1
 have hws6 : ws.length ≤ 65536 := hF.ws.2
 have hm0 : ∀ x ∈ K0, x.1.length + mF ≤ 65536 := hF.k0
 have hm1 : ∀ x ∈ K1, x.1.length + mF ≤ 65536 := hF.k1
 clear hF
 go_enter Try.func24, Try.ntmps24
 go_upto_region 3 with (fail)
 obtain ⟨hW, hE, hG, hO, hP, hQ⟩ := boxes5 w (.cells #[.int .i64 T, .int .i64 C, .slice A q c, .int .u64 (RN : Int), .slice A0 n c0, .slice A1 n c1] 51) (.cells #[.int .i64 k, .int .i64 ce, .int .u64 a, .int .u64 b, .slice D m cd, .slice B q2 cb] 33) (.cells #[.int .i64 0, .int .i64 0, .slice none 0 0, .int .u64 0, .slice none 0 0, .slice none 0 0] 51) (.cells #[.int .u64 0, .slice none 0 0, .bool false] 59) (.cells #[.int .u64 0, .slice none 0 0, .bool false] 59)
 generalize ((((w.alloc (.cells #[.int .i64 T, .int .i64 C, .slice A q c, .int .u64 (RN : Int), .slice A0 n c0, .slice A1 n c1] 51)).alloc (.cells #[.int .i64 k, .int .i64 ce, .int .u64 a, .int .u64 b, .slice D m cd, .slice B q2 cb] 33)).alloc (.cells #[.int .i64 0, .int .i64 0, .slice none 0 0, .int .u64 0, .slice none 0 0, .slice none 0 0] 51)).alloc (.cells #[.int .u64 0, .slice none 0 0, .bool false] 59)).alloc (.cells #[.int .u64 0, .slice none 0 0, .bool false] 59) = W at *
 have hlt : w.heap.size + 1 + 1 + 1 + 1 < W.heap.size := (Array.getElem?_eq_some_iff.1 hQ).1
 have e0 : W.cell? ⟨w.heap.size, 0, none⟩ = some (.int .i64 T) := by simp [World.cell?, hE]
 have ef0 : W.frozen? ⟨w.heap.size, 0, none⟩ = false := by simp [World.frozen?, hE]
 have e1 : W.cell? ⟨w.heap.size, 1, none⟩ = some (.int .i64 C) := by simp [World.cell?, hE]
 have ef1 : W.frozen? ⟨w.heap.size, 1, none⟩ = false := by simp [World.frozen?, hE]
 have e2 : W.cell? ⟨w.heap.size, 2, none⟩ = some (.slice A q c) := by simp [World.cell?, hE]
 have ef2 : W.frozen? ⟨w.heap.size, 2, none⟩ = false := by simp [World.frozen?, hE]
 have e3 : W.cell? ⟨w.heap.size, 3, none⟩ = some (.int .u64 (RN : Int)) := by simp [World.cell?, hE]
 have ef3 : W.frozen? ⟨w.heap.size, 3, none⟩ = false := by simp [World.frozen?, hE]
 have e4 : W.cell? ⟨w.heap.size, 4, none⟩ = some (.slice A0 n c0) := by simp [World.cell?, hE]
 have ef4 : W.frozen? ⟨w.heap.size, 4, none⟩ = false := by simp [World.frozen?, hE]
 have e5 : W.cell? ⟨w.heap.size, 5, none⟩ = some (.slice A1 n c1) := by simp [World.cell?, hE]
 have ef5 : W.frozen? ⟨w.heap.size, 5, none⟩ = false := by simp [World.frozen?, hE]
 have g0 : W.cell? ⟨w.heap.size + 1, 0, none⟩ = some (.int .i64 k) := by simp [World.cell?, hG]
 have g1 : W.cell? ⟨w.heap.size + 1, 1, none⟩ = some (.int .i64 ce) := by simp [World.cell?, hG]
 have g2 : W.cell? ⟨w.heap.size + 1, 2, none⟩ = some (.int .u64 a) := by simp [World.cell?, hG]
 have g3 : W.cell? ⟨w.heap.size + 1, 3, none⟩ = some (.int .u64 b) := by simp [World.cell?, hG]
 have g4 : W.cell? ⟨w.heap.size + 1, 4, none⟩ = some (.slice D m cd) := by simp [World.cell?, hG]
 have g5 : W.cell? ⟨w.heap.size + 1, 5, none⟩ = some (.slice B q2 cb) := by simp [World.cell?, hG]
 have z0 : W.cell? ⟨w.heap.size + 1 + 1 + 1 + 1, 0, none⟩ = some (.int .u64 0) := by simp [World.cell?, hQ]
 have zf0 : W.frozen? ⟨w.heap.size + 1 + 1 + 1 + 1, 0, none⟩ = false := by simp [World.frozen?, hQ]
 have z1 : W.cell? ⟨w.heap.size + 1 + 1 + 1 + 1, 1, none⟩ = some (.slice none 0 0) := by simp [World.cell?, hQ]
 have zf1 : W.frozen? ⟨w.heap.size + 1 + 1 + 1 + 1, 1, none⟩ = false := by simp [World.frozen?, hQ]
 have z2 : W.cell? ⟨w.heap.size + 1 + 1 + 1 + 1, 2, none⟩ = some (.bool false) := by simp [World.cell?, hQ]
 have zf2 : W.frozen? ⟨w.heap.size + 1 + 1 + 1 + 1, 2, none⟩ = false := by simp [World.frozen?, hQ]
 go_wp2_with fail
 refine (adisk_any k _).mono ?_
 rintro e w1 ⟨rfl, rfl⟩
 rw [hk]
 go_wp2_with fail
 refine (adisk_any k _).mono ?_
 rintro e w1 ⟨rfl, rfl⟩
 rw [hk]
 go_wp2_with fail
 refine (words_any T C A q c ws k ce a b D m cd B q2 cb dat wd _ (hA.ext hW) (by omega) ha hb).mono ?_
 rintro e w3 ⟨A', c', rfl, hwv, hx⟩
 have hwl : 2 ≤ (wordsK ws ⟨k, ce, a, b, dat, wd⟩).length := by rw [wordsK_length]; exact hws2
 have hwb : (wordsR ws ⟨k, ce, a, b, dat, wd⟩).b = [] ∧ (wordsR ws ⟨k, ce, a, b, dat, wd⟩).fail = false := by unfold wordsR; split <;> exact ⟨rfl, rfl⟩
 generalize wordsK ws ⟨k, ce, a, b, dat, wd⟩ = ws' at *
 generalize wordsR ws ⟨k, ce, a, b, dat, wd⟩ = rr at *
 obtain ⟨rN, rb, rf⟩ := rr
 obtain ⟨rfl, rfl⟩ := hwb
 replace hE := heap_ext hE hx
 replace hG := heap_ext hG hx
 replace hO := heap_ext hO hx
 replace hP := heap_ext hP hx
 replace hQ := heap_ext hQ hx
 replace hW := hW.trans hx
 clear e0 e1 e2 e3 e4 e5 ef0 ef1 ef2 ef3 ef4 ef5 g0 g1 g2 g3 g4 g5 z0 z1 z2 zf0 zf1 zf2
 clear hx
 have e0 : w3.cell? ⟨w.heap.size, 0, none⟩ = some (.int .i64 T) := by simp [World.cell?, hE]
 have ef0 : w3.frozen? ⟨w.heap.size, 0, none⟩ = false := by simp [World.frozen?, hE]
 have e1 : w3.cell? ⟨w.heap.size, 1, none⟩ = some (.int .i64 C) := by simp [World.cell?, hE]
 have ef1 : w3.frozen? ⟨w.heap.size, 1, none⟩ = false := by simp [World.frozen?, hE]
 have e2 : w3.cell? ⟨w.heap.size, 2, none⟩ = some (.slice A q c) := by simp [World.cell?, hE]
 have ef2 : w3.frozen? ⟨w.heap.size, 2, none⟩ = false := by simp [World.frozen?, hE]
 have e3 : w3.cell? ⟨w.heap.size, 3, none⟩ = some (.int .u64 (RN : Int)) := by simp [World.cell?, hE]
 have ef3 : w3.frozen? ⟨w.heap.size, 3, none⟩ = false := by simp [World.frozen?, hE]
 have e4 : w3.cell? ⟨w.heap.size, 4, none⟩ = some (.slice A0 n c0) := by simp [World.cell?, hE]
 have ef4 : w3.frozen? ⟨w.heap.size, 4, none⟩ = false := by simp [World.frozen?, hE]
 have e5 : w3.cell? ⟨w.heap.size, 5, none⟩ = some (.slice A1 n c1) := by simp [World.cell?, hE]
 have ef5 : w3.frozen? ⟨w.heap.size, 5, none⟩ = false := by simp [World.frozen?, hE]
 have z0 : w3.cell? ⟨w.heap.size + 1 + 1 + 1 + 1, 0, none⟩ = some (.int .u64 0) := by simp [World.cell?, hQ]
 have zf0 : w3.frozen? ⟨w.heap.size + 1 + 1 + 1 + 1, 0, none⟩ = false := by simp [World.frozen?, hQ]
 have z1 : w3.cell? ⟨w.heap.size + 1 + 1 + 1 + 1, 1, none⟩ = some (.slice none 0 0) := by simp [World.cell?, hQ]
 have zf1 : w3.frozen? ⟨w.heap.size + 1 + 1 + 1 + 1, 1, none⟩ = false := by simp [World.frozen?, hQ]
 have z2 : w3.cell? ⟨w.heap.size + 1 + 1 + 1 + 1, 2, none⟩ = some (.bool false) := by simp [World.cell?, hQ]
 have zf2 : w3.frozen? ⟨w.heap.size + 1 + 1 + 1 + 1, 2, none⟩ = false := by simp [World.frozen?, hQ]
 go_upto_region 10 with (fail)
 have hE3 : ((((((w3.setCell ⟨w.heap.size, 0, none⟩ (.int .i64 T)).setCell ⟨w.heap.size, 1, none⟩ (.int .i64 C)).setCell ⟨w.heap.size, 2, none⟩ (.slice A' q c')).setCell ⟨w.heap.size + 1 + 1 + 1 + 1, 0, none⟩ (.int .u64 rN)).setCell ⟨w.heap.size + 1 + 1 + 1 + 1, 1, none⟩ (.slice none 0 0)).setCell ⟨w.heap.size + 1 + 1 + 1 + 1, 2, none⟩ (.bool false)).heap[w.heap.size]? = some (.cells #[.int .i64 T, .int .i64 C, .slice A' q c', .int .u64 (RN : Int), .slice A0 n c0, .slice A1 n c1] 51 (0, 0)) := (setAll_other (g := w.heap.size + 1 + 1 + 1 + 1) (by omega) [.int .u64 rN, .slice none 0 0, .bool false] 0 _).trans (heap_setCell_at (heap_setCell_at (heap_setCell_at hE)))
 have hO3 : ((((((w3.setCell ⟨w.heap.size, 0, none⟩ (.int .i64 T)).setCell ⟨w.heap.size, 1, none⟩ (.int .i64 C)).setCell ⟨w.heap.size, 2, none⟩ (.slice A' q c')).setCell ⟨w.heap.size + 1 + 1 + 1 + 1, 0, none⟩ (.int .u64 rN)).setCell ⟨w.heap.size + 1 + 1 + 1 + 1, 1, none⟩ (.slice none 0 0)).setCell ⟨w.heap.size + 1 + 1 + 1 + 1, 2, none⟩ (.bool false)).heap[w.heap.size + 1 + 1]? = some (.cells #[.int .i64 0, .int .i64 0, .slice none 0 0, .int .u64 0, .slice none 0 0, .slice none 0 0] 51 (0, 0)) := (setAll_other (g := w.heap.size + 1 + 1 + 1 + 1) (by omega) [.int .u64 rN, .slice none 0 0, .bool false] 0 _).trans ((setAll_other (g := w.heap.size) (by omega) [.int .i64 T, .int .i64 C, .slice A' q c'] 0 w3).trans hO)
 have hP3 : ((((((w3.setCell ⟨w.heap.size, 0, none⟩ (.int .i64 T)).setCell ⟨w.heap.size, 1, none⟩ (.int .i64 C)).setCell ⟨w.heap.size, 2, none⟩ (.slice A' q c')).setCell ⟨w.heap.size + 1 + 1 + 1 + 1, 0, none⟩ (.int .u64 rN)).setCell ⟨w.heap.size + 1 + 1 + 1 + 1, 1, none⟩ (.slice none 0 0)).setCell ⟨w.heap.size + 1 + 1 + 1 + 1, 2, none⟩ (.bool false)).heap[w.heap.size + 1 + 1 + 1]? = some (.cells #[.int .u64 0, .slice none 0 0, .bool false] 59 (0, 0)) := (setAll_other (g := w.heap.size + 1 + 1 + 1 + 1) (by omega) [.int .u64 rN, .slice none 0 0, .bool false] 0 _).trans ((setAll_other (g := w.heap.size) (by omega) [.int .i64 T, .int .i64 C, .slice A' q c'] 0 w3).trans hP)
 have hQ3 : ((((((w3.setCell ⟨w.heap.size, 0, none⟩ (.int .i64 T)).setCell ⟨w.heap.size, 1, none⟩ (.int .i64 C)).setCell ⟨w.heap.size, 2, none⟩ (.slice A' q c')).setCell ⟨w.heap.size + 1 + 1 + 1 + 1, 0, none⟩ (.int .u64 rN)).setCell ⟨w.heap.size + 1 + 1 + 1 + 1, 1, none⟩ (.slice none 0 0)).setCell ⟨w.heap.size + 1 + 1 + 1 + 1, 2, none⟩ (.bool false)).heap[w.heap.size + 1 + 1 + 1 + 1]? = some (.cells #[.int .u64 rN, .slice none 0 0, .bool false] 59 (0, 0)) := setAll_all (vs := [.int .u64 rN, .slice none 0 0, .bool false]) ((setAll_other (g := w.heap.size) (by omega) [.int .i64 T, .int .i64 C, .slice A' q c'] 0 w3).trans hQ) rfl
 have hW3 : Ext w ((((((w3.setCell ⟨w.heap.size, 0, none⟩ (.int .i64 T)).setCell ⟨w.heap.size, 1, none⟩ (.int .i64 C)).setCell ⟨w.heap.size, 2, none⟩ (.slice A' q c')).setCell ⟨w.heap.size + 1 + 1 + 1 + 1, 0, none⟩ (.int .u64 rN)).setCell ⟨w.heap.size + 1 + 1 + 1 + 1, 1, none⟩ (.slice none 0 0)).setCell ⟨w.heap.size + 1 + 1 + 1 + 1, 2, none⟩ (.bool false)) := setAll_ext (g := w.heap.size + 1 + 1 + 1 + 1) (vs := [.int .u64 rN, .slice none 0 0, .bool false]) (i := 0) (setAll_ext (g := w.heap.size) (vs := [.int .i64 T, .int .i64 C, .slice A' q c']) (i := 0) hW (Nat.le_refl _)) (by omega)
 have hQm : (setAll (w.heap.size) 0 [.int .i64 T, .int .i64 C, .slice A' q c'] w3).heap[w.heap.size + 1 + 1 + 1 + 1]? = some (.cells #[.int .u64 0, .slice none 0 0, .bool false] 59 (0, 0)) := (setAll_other (g := w.heap.size) (by omega) [.int .i64 T, .int .i64 C, .slice A' q c'] 0 w3).trans hQ
 replace hwv := WordsV.but (WordsV.but hwv hwl (But.all w.heap.size [.int .i64 T, .int .i64 C, .slice A' q c'] 0 w3) hE rfl) hwl (But.all (w.heap.size + 1 + 1 + 1 + 1) [.int .u64 rN, .slice none 0 0, .bool false] 0 _) hQm rfl
 change WordsV ((((((w3.setCell ⟨w.heap.size, 0, none⟩ (.int .i64 T)).setCell ⟨w.heap.size, 1, none⟩ (.int .i64 C)).setCell ⟨w.heap.size, 2, none⟩ (.slice A' q c')).setCell ⟨w.heap.size + 1 + 1 + 1 + 1, 0, none⟩ (.int .u64 rN)).setCell ⟨w.heap.size + 1 + 1 + 1 + 1, 1, none⟩ (.slice none 0 0)).setCell ⟨w.heap.size + 1 + 1 + 1 + 1, 2, none⟩ (.bool false)) _ _ _ _ at hwv
 clear hQm
 clear e0 e1 e2 e3 e4 e5 ef0 ef1 ef2 ef3 ef4 ef5 z0 z1 z2 zf0 zf1 zf2
 clear hE hG hO hP hQ hW
 generalize ((((((w3.setCell ⟨w.heap.size, 0, none⟩ (.int .i64 T)).setCell ⟨w.heap.size, 1, none⟩ (.int .i64 C)).setCell ⟨w.heap.size, 2, none⟩ (.slice A' q c')).setCell ⟨w.heap.size + 1 + 1 + 1 + 1, 0, none⟩ (.int .u64 rN)).setCell ⟨w.heap.size + 1 + 1 + 1 + 1, 1, none⟩ (.slice none 0 0)).setCell ⟨w.heap.size + 1 + 1 + 1 + 1, 2, none⟩ (.bool false)) = w4 at *
 have hdk := hd.ext hW3
 have hby := bytes_nil w4
 have HE := Lib.hid hE3
 have HO := Lib.hid hO3
 have HP := Lib.hid hP3
 have HQ := Lib.hid hQ3
 have HW := Lib.hid hW3
 clear hE3 hO3 hP3 hQ3 hW3 hlt
 obtain ⟨gOO, hOO⟩ : ∃ g, g = w.heap.size + 1 + 1 := ⟨_, rfl⟩
 refine' SB.wp_region_sure (gx := [(2, gOO)]) (Pn := fun _ _ => False) ⟨[(some 57, [], none), (some 58, [], none), (none, [0, 0], none), (none, [1, 2, 0, 1, 2], none)], [0, 0, 1, 7], [none, none, some []], [2]⟩ 3 59 [(0, 57), (1, 58)] [(0, 57), (1, 58)] [.det _, .det _, SB.Good.of (fun v w => w.heap[gOO]? = some (.cells #[.int .i64 T, .int .i64 C, .slice A' q c', .int .u64 (RN : Int), .slice A0 n c0, .slice A1 n c1] 51 (0, 0))) (fun v w w' h hx => heap_ext h hx)] (by kernel_rfl) ?hpan (by kernel_rfl) (by kernel_rfl) rfl (by kernel_rfl) (by kernel_rfl) rfl ?hone ?hend
 case hpan =>
  intro _ _ _ _ h; exact h.elim
 case hone =>
  intro CS frS VS hCS ha hV
  have qs4 := slot_val (t := 4) ha rfl
  simp only [List.getElem_toArray, List.getElem_cons_succ, List.getElem_cons_zero] at qs4
  have qs8 := slot_val (t := 8) ha rfl
  simp only [List.getElem_toArray, List.getElem_cons_succ, List.getElem_cons_zero] at qs8
  have qs10 := slot_val (t := 10) ha rfl
  simp only [List.getElem_toArray, List.getElem_cons_succ, List.getElem_cons_zero] at qs10
  have HCS := Lib.hid hCS
  have HVS := Lib.hid hV
  clear ha hCS hV
  refine SB.sure_det (js := []) (ts := [4]) (gd := none) (bs := []) (SB.place_at HVS.out (k := 0) rfl) (by rw [HCS.out]; kernel_rfl) (by rw [HCS.out]; kernel_rfl) ?_ ?_
  ·intro wx hx ρ hρ hs hf; have hρc := hρ.const; have hρf := hρ.func
   obtain ⟨fx4, -⟩ := hf; rw [qs4] at fx4
   clear hs
   clear HCS HVS qs4 qs8 qs10
   refine SB.run_plain ?_
   have hgd : wx.heap[w.heap.size]? = some (.cells #[.int .i64 T, .int .i64 C, .slice A' q c', .int .u64 (RN : Int), .slice A0 n c0, .slice A1 n c1] 51 (0, 0)) := hx.heap HE.out (by simp)
   have hd0 : wx.cell? ⟨w.heap.size, 0, none⟩ = some (.int .i64 T) := by simp [World.cell?, hgd]
   have hd1 : wx.cell? ⟨w.heap.size, 1, none⟩ = some (.int .i64 C) := by simp [World.cell?, hgd]
   have hd2 : wx.cell? ⟨w.heap.size, 2, none⟩ = some (.slice A' q c') := by simp [World.cell?, hgd]
   have hd3 : wx.cell? ⟨w.heap.size, 3, none⟩ = some (.int .u64 (RN : Int)) := by simp [World.cell?, hgd]
   have hd4 : wx.cell? ⟨w.heap.size, 4, none⟩ = some (.slice A0 n c0) := by simp [World.cell?, hgd]
   have hd5 : wx.cell? ⟨w.heap.size, 5, none⟩ = some (.slice A1 n c1) := by simp [World.cell?, hgd]
   unfold SB.runs
   go_simp
   exact SB.detK.mk
  refine SB.sure_det (js := []) (ts := [10]) (gd := none) (bs := [gOO]) (SB.place_at HVS.out (k := 1) rfl) (by rw [HCS.out]; kernel_rfl) (by rw [HCS.out]; kernel_rfl) ?_ ?_
  ·intro wx hx ρ hρ hs hf; have hρc := hρ.const; have hρf := hρ.func
   obtain ⟨fx10, -⟩ := hf; rw [qs10] at fx10
   clear hs
   clear HCS HVS qs4 qs8 qs10
   refine SB.run_plain ?_
   have hgd : wx.heap[w.heap.size + 1 + 1 + 1 + 1]? = some (.cells #[.int .u64 rN, .slice none 0 0, .bool false] 59 (0, 0)) := hx.heap HQ.out (by simp; omega)
   have hd0 : wx.cell? ⟨w.heap.size + 1 + 1 + 1 + 1, 0, none⟩ = some (.int .u64 rN) := by simp [World.cell?, hgd]
   have hd1 : wx.cell? ⟨w.heap.size + 1 + 1 + 1 + 1, 1, none⟩ = some (.slice none 0 0) := by simp [World.cell?, hgd]
   have hd2 : wx.cell? ⟨w.heap.size + 1 + 1 + 1 + 1, 2, none⟩ = some (.bool false) := by simp [World.cell?, hgd]
   unfold SB.runs
   go_simp
   exact SB.detK.mk
  refine SB.sure_wild (js := [(0, 57)]) (ts := [8]) (gd := none) (bs := []) (cs := [gOO]) (SB.place_at HVS.out (k := 2) rfl) (by rw [HCS.out]; kernel_rfl) (by rw [HCS.out]; kernel_rfl) rfl ?_ ?_
  ·intro wx hx ρ hρ hs hf; have hρc := hρ.const; have hρf := hρ.func; obtain ⟨sn0, -⟩ := hs
   obtain ⟨fx8, -⟩ := hf; rw [qs8] at fx8
   rw [SB.place_at HVS.out (k := 0) rfl] at sn0; replace sn0 : ρ (.tmp 57) = _ := sn0
   clear HCS HVS qs4 qs8 qs10
   refine SB.run_plain ?_
   subst hOO
   have hg : wx.heap[w.heap.size + 1 + 1]? = some (.cells #[.int .i64 0, .int .i64 0, .slice none 0 0, .int .u64 0, .slice none 0 0, .slice none 0 0] 51 (0, 0)) := hx.heap HO.out (by simp)
   have f0 : wx.frozen? ⟨w.heap.size + 1 + 1, 0, none⟩ = false := by simp [World.frozen?, hg]
   have c0' : wx.cell? ⟨w.heap.size + 1 + 1, 0, none⟩ = some (.int .i64 0) := by simp [World.cell?, hg]
   have f1 : wx.frozen? ⟨w.heap.size + 1 + 1, 1, none⟩ = false := by simp [World.frozen?, hg]
   have c1' : wx.cell? ⟨w.heap.size + 1 + 1, 1, none⟩ = some (.int .i64 0) := by simp [World.cell?, hg]
   have f2 : wx.frozen? ⟨w.heap.size + 1 + 1, 2, none⟩ = false := by simp [World.frozen?, hg]
   have c2' : wx.cell? ⟨w.heap.size + 1 + 1, 2, none⟩ = some (.slice none 0 0) := by simp [World.cell?, hg]
   have f3 : wx.frozen? ⟨w.heap.size + 1 + 1, 3, none⟩ = false := by simp [World.frozen?, hg]
   have c3' : wx.cell? ⟨w.heap.size + 1 + 1, 3, none⟩ = some (.int .u64 0) := by simp [World.cell?, hg]
   have f4 : wx.frozen? ⟨w.heap.size + 1 + 1, 4, none⟩ = false := by simp [World.frozen?, hg]
   have c4' : wx.cell? ⟨w.heap.size + 1 + 1, 4, none⟩ = some (.slice none 0 0) := by simp [World.cell?, hg]
   have f5 : wx.frozen? ⟨w.heap.size + 1 + 1, 5, none⟩ = false := by simp [World.frozen?, hg]
   have c5' : wx.cell? ⟨w.heap.size + 1 + 1, 5, none⟩ = some (.slice none 0 0) := by simp [World.cell?, hg]
   unfold SB.runs
   go_simp
   exact ⟨.ofB (((((((ExtB.refl _ _).set _ _).set _ _).set _ _).set _ _).set _ _).set _ _) (by simp), setAll_all (vs := [.int .i64 T, .int .i64 C, .slice A' q c', .int .u64 (RN : Int), .slice A0 n c0, .slice A1 n c1]) hg rfl⟩
  exact trivial
 case hend =>
  intro xs wx hx hg hq
  have gk0 : xs 0 = _ := SB.goods_get hg (i := 0) (j := 0) (d := 57) rfl
  have gk1 : xs 1 = _ := SB.goods_get hg (i := 1) (j := 1) (d := 58) rfl
  obtain ⟨-, gk2⟩ : ∃ v : Value, wx.heap[gOO]? = some (.cells #[.int .i64 T, .int .i64 C, .slice A' q c', .int .u64 (RN : Int), .slice A0 n c0, .slice A1 n c1] 51 (0, 0)) := hq 2 (by decide) (by kernel_rfl)
  clear hg hq
  simp only [putAll, gk0, gk1]
  clear gk0 gk1
  clear xs
  simp only [Act.put, List.setIfInBounds_toArray, List.set_cons_zero, List.set_cons_succ, List.drop_succ_cons, List.drop_zero]
  subst hOO
  have hgO := gk2
  have hxs : SB.ExtS [w.heap.size + 1 + 1] w4.drew wx := hx
  have hbut : But (w.heap.size + 1 + 1) w4 wx := But.exts hxs
  have hgP : wx.heap[w.heap.size + 1 + 1 + 1]? = some (.cells #[.int .u64 0, .slice none 0 0, .bool false] 59 (0, 0)) := hbut _ _ (by omega) HP.out
  have hWx : Ext w wx := extS_base HW.out hxs (by omega)
  replace hdk := hdk.but hbut HO.out rfl
  replace hby := BytesV.but hby hbut HO.out rfl
  replace hwv := WordsV.but hwv hwl hbut HO.out rfl
  have hF : Ext w (((wx.setCell ⟨w.heap.size + 1 + 1 + 1, 0, none⟩ (.int .u64 rN)).setCell ⟨w.heap.size + 1 + 1 + 1, 1, none⟩ (.slice none 0 0)).setCell ⟨w.heap.size + 1 + 1 + 1, 2, none⟩ (.bool false)) := setAll_ext (g := w.heap.size + 1 + 1 + 1) (vs := [.int .u64 rN, .slice none 0 0, .bool false]) (i := 0) hWx (by omega)
  have hfP : (((wx.setCell ⟨w.heap.size + 1 + 1 + 1, 0, none⟩ (.int .u64 rN)).setCell ⟨w.heap.size + 1 + 1 + 1, 1, none⟩ (.slice none 0 0)).setCell ⟨w.heap.size + 1 + 1 + 1, 2, none⟩ (.bool false)).heap[w.heap.size + 1 + 1 + 1]? = some (.cells #[.int .u64 rN, .slice none 0 0, .bool false] 59 (0, 0)) := setAll_all (vs := [.int .u64 rN, .slice none 0 0, .bool false]) hgP rfl
  have hfO : (((wx.setCell ⟨w.heap.size + 1 + 1 + 1, 0, none⟩ (.int .u64 rN)).setCell ⟨w.heap.size + 1 + 1 + 1, 1, none⟩ (.slice none 0 0)).setCell ⟨w.heap.size + 1 + 1 + 1, 2, none⟩ (.bool false)).heap[w.heap.size + 1 + 1]? = some (.cells #[.int .i64 T, .int .i64 C, .slice A' q c', .int .u64 (RN : Int), .slice A0 n c0, .slice A1 n c1] 51 (0, 0)) := (setAll_other (g := w.heap.size + 1 + 1 + 1) (by omega) [.int .u64 rN, .slice none 0 0, .bool false] 0 wx).trans hgO
  have hfd := hdk.but (But.all (w.heap.size + 1 + 1 + 1) [.int .u64 rN, .slice none 0 0, .bool false] 0 wx) hgP rfl
  have hfb := BytesV.but hby (But.all (w.heap.size + 1 + 1 + 1) [.int .u64 rN, .slice none 0 0, .bool false] 0 wx) hgP rfl
  have hfw := WordsV.but hwv hwl (But.all (w.heap.size + 1 + 1 + 1) [.int .u64 rN, .slice none 0 0, .bool false] 0 wx) hgP rfl
  change DkK (((wx.setCell ⟨w.heap.size + 1 + 1 + 1, 0, none⟩ (.int .u64 rN)).setCell ⟨w.heap.size + 1 + 1 + 1, 1, none⟩ (.slice none 0 0)).setCell ⟨w.heap.size + 1 + 1 + 1, 2, none⟩ (.bool false)) _ _ _ _ _ at hfd
  change BytesV (((wx.setCell ⟨w.heap.size + 1 + 1 + 1, 0, none⟩ (.int .u64 rN)).setCell ⟨w.heap.size + 1 + 1 + 1, 1, none⟩ (.slice none 0 0)).setCell ⟨w.heap.size + 1 + 1 + 1, 2, none⟩ (.bool false)) _ _ _ _ at hfb
  change WordsV (((wx.setCell ⟨w.heap.size + 1 + 1 + 1, 0, none⟩ (.int .u64 rN)).setCell ⟨w.heap.size + 1 + 1 + 1, 1, none⟩ (.slice none 0 0)).setCell ⟨w.heap.size + 1 + 1 + 1, 2, none⟩ (.bool false)) _ _ _ _ at hfw
  have p0 : wx.cell? ⟨w.heap.size + 1 + 1 + 1, 0, none⟩ = some (.int .u64 0) := by simp [World.cell?, hgP]
  have pf0 : wx.frozen? ⟨w.heap.size + 1 + 1 + 1, 0, none⟩ = false := by simp [World.frozen?, hgP]
  have p1 : wx.cell? ⟨w.heap.size + 1 + 1 + 1, 1, none⟩ = some (.slice none 0 0) := by simp [World.cell?, hgP]
  have pf1 : wx.frozen? ⟨w.heap.size + 1 + 1 + 1, 1, none⟩ = false := by simp [World.frozen?, hgP]
  have p2 : wx.cell? ⟨w.heap.size + 1 + 1 + 1, 2, none⟩ = some (.bool false) := by simp [World.cell?, hgP]
  have pf2 : wx.frozen? ⟨w.heap.size + 1 + 1 + 1, 2, none⟩ = false := by simp [World.frozen?, hgP]
  clear hx hxs hbut hdk hby hwv
  go_wp2
  generalize (((wx.setCell ⟨w.heap.size + 1 + 1 + 1, 0, none⟩ (.int .u64 rN)).setCell ⟨w.heap.size + 1 + 1 + 1, 1, none⟩ (.slice none 0 0)).setCell ⟨w.heap.size + 1 + 1 + 1, 2, none⟩ (.bool false)) = wf at *
  clear p0 p1 p2 pf0 pf1 pf2
  have o0 : wf.cell? ⟨w.heap.size + 1 + 1, 0, none⟩ = some (.int .i64 T) := by simp [World.cell?, hfO]
  have o1 : wf.cell? ⟨w.heap.size + 1 + 1, 1, none⟩ = some (.int .i64 C) := by simp [World.cell?, hfO]
  have o2 : wf.cell? ⟨w.heap.size + 1 + 1, 2, none⟩ = some (.slice A' q c') := by simp [World.cell?, hfO]
  have o3 : wf.cell? ⟨w.heap.size + 1 + 1, 3, none⟩ = some (.int .u64 (RN : Int)) := by simp [World.cell?, hfO]
  have o4 : wf.cell? ⟨w.heap.size + 1 + 1, 4, none⟩ = some (.slice A0 n c0) := by simp [World.cell?, hfO]
  have o5 : wf.cell? ⟨w.heap.size + 1 + 1, 5, none⟩ = some (.slice A1 n c1) := by simp [World.cell?, hfO]
  have p0 : wf.cell? ⟨w.heap.size + 1 + 1 + 1, 0, none⟩ = some (.int .u64 rN) := by simp [World.cell?, hfP]
  have p1 : wf.cell? ⟨w.heap.size + 1 + 1 + 1, 1, none⟩ = some (.slice none 0 0) := by simp [World.cell?, hfP]
  have p2 : wf.cell? ⟨w.heap.size + 1 + 1 + 1, 2, none⟩ = some (.bool false) := by simp [World.cell?, hfP]
  refine bodyPost_ret (v := .tuple #[.agg #[.int .i64 T, .int .i64 C, .slice A' q c', .int .u64 (RN : Int), .slice A0 n c0, .slice A1 n c1], .agg #[.int .u64 rN, .slice none 0 0, .bool false]]) (by simp [results, Try.results24, go_sem, o0, o1, o2, o3, o4, o5, p0, p1, p2]) rfl ⟨_, _, rfl, ⟨_, _, _, _, _, _, _, rfl, hfw, hfd⟩, ⟨_, _, _, rfl, hfb⟩, hF⟩
def useM (A : AccK) (fail : Bool) : Nat := if diskKind A.kind && !fail then A.data.length else 0
theorem do_all (v av : Value) (X : WldK) (me : Int) (A : AccK) (fail : Bool) (w : World) (hX : WldV w v X) (hA : AccV w av A) (hF : Fit X (useM A fail)) :
  Calls Try.prog 24 #[v, .int .i64 me, av, .bool fail] w (DoPost (doK X me A fail) (doR X A fail) w) := by
 obtain ⟨T, C, ws, R, n, K0, K1⟩ := X
 obtain ⟨k, ce, a, b, dat, wd⟩ := A
 obtain ⟨RN, rfl⟩ : ∃ RN : Nat, R = (RN : Int) := ⟨R.toNat, by have := hF.root.1; simp only at this; omega⟩
 obtain ⟨AA, q, c, A0, A1, c0, c1, rfl, hw, hd⟩ := hX
 obtain ⟨D, m, cd, B, q2, cb, rfl, hB, hwd, ha, hb⟩ := hA
 simp only at *
 by_cases hk : diskKind k = true
 ·cases fail with
  | true =>
   rw [show doK ⟨T, C, ws, RN, n, K0, K1⟩ me ⟨k, ce, a, b, dat, wd⟩ true = ⟨T, C, ws, RN, n, K0, K1⟩ by simp [doK, hk], show doR ⟨T, C, ws, RN, n, K0, K1⟩ ⟨k, ce, a, b, dat, wd⟩ true = ⟨0, [], true⟩ by simp [doR, hk]]
   exact do_fail T C AA q c ws RN n A0 A1 c0 c1 K0 K1 me k ce a b D m cd B q2 cb dat wd w hw hd hB hwd ha hb hF hk
  | false =>
   rw [show doK ⟨T, C, ws, RN, n, K0, K1⟩ me ⟨k, ce, a, b, dat, wd⟩ false = ⟨T, C, ws, strRoot (RN : Int) ⟨k, ce, a, b, dat, wd⟩, n, strK0 (RN : Int) n me ⟨k, ce, a, b, dat, wd⟩ K0, strK1 (RN : Int) n me ⟨k, ce, a, b, dat, wd⟩ K1⟩ by simp [doK, hk], show doR ⟨T, C, ws, RN, n, K0, K1⟩ ⟨k, ce, a, b, dat, wd⟩ false = strR (RN : Int) ⟨k, ce, a, b, dat, wd⟩ K0 K1 by simp [doR, hk]]
   exact do_disk T C AA q c ws RN n A0 A1 c0 c1 K0 K1 me k ce a b D m cd B q2 cb dat wd w hw hd hB hwd ha hb hF hk (by simp [useM, hk, hB.len])
 ·have hk' : diskKind k = false := by simpa using hk
  by_cases h13 : k = 13
  ·subst h13
   by_cases hne : wd.length = ws.length
   ·rw [show doK ⟨T, C, ws, RN, n, K0, K1⟩ me ⟨13, ce, a, b, dat, wd⟩ fail = ⟨T, C, wd, RN, n, K0, K1⟩ by simp [doK, hne, diskKind], show doR ⟨T, C, ws, RN, n, K0, K1⟩ ⟨13, ce, a, b, dat, wd⟩ fail = ResK.zero by simp [doR, diskKind]]
    exact do_inst_yes T C AA q c ws RN n A0 A1 c0 c1 K0 K1 me 0 ce a b D m cd B q2 cb dat wd w hw hd hB hwd ha hb hF fail hk' hne
   ·rw [show doK ⟨T, C, ws, RN, n, K0, K1⟩ me ⟨13, ce, a, b, dat, wd⟩ fail = ⟨T, C, ws, RN, n, K0, K1⟩ by simp [doK, hne, diskKind], show doR ⟨T, C, ws, RN, n, K0, K1⟩ ⟨13, ce, a, b, dat, wd⟩ fail = ResK.zero by simp [doR, diskKind]]
    exact do_inst_no T C AA q c ws RN n A0 A1 c0 c1 K0 K1 me 0 ce a b D m cd B q2 cb dat wd w hw hd hB hwd ha hb hF fail hk' hne
  ·rw [show doK ⟨T, C, ws, RN, n, K0, K1⟩ me ⟨k, ce, a, b, dat, wd⟩ fail = ⟨T, C, wordsK ws ⟨k, ce, a, b, dat, wd⟩, RN, n, K0, K1⟩ by simp [doK, hk', h13], show doR ⟨T, C, ws, RN, n, K0, K1⟩ ⟨k, ce, a, b, dat, wd⟩ fail = wordsR ws ⟨k, ce, a, b, dat, wd⟩ by simp [doR, hk', h13]]
   exact do_word T C AA q c ws RN n A0 A1 c0 c1 K0 K1 me k ce a b D m cd B q2 cb dat wd w hw hd hB hwd ha hb hF fail hk' h13
end Go.Proofs.Ytjokaginolpbeaa

namespace Go.Proofs.Ytjokaginolpbeaa
open Go.RowKit

def U64 (n : Int) : Prop := 0 ≤ n ∧ n < 18446744073709551616
theorem U64.nat {n : Int} (h : U64 n) : ∃ k : Nat, n = (k : Int) ∧ k < 18446744073709551616 := by
  obtain ⟨h0, h1⟩ := h
  exact ⟨n.toNat, by omega, by omega⟩
theorem u64_wrap (n : Int) : U64 (IntKind.u64.wrap n) := by
  rw [IntKind.wrap_u64]; exact ⟨by omega, by omega⟩

theorem ofInt_nat (a : Nat) (ha : a < 18446744073709551616) : (BitVec.ofInt 64 (a : Int)).toNat = a := by
  rw [BitVec.ofInt_natCast, BitVec.toNat_ofNat]; exact Nat.mod_eq_of_lt (by omega)

theorem bits_and_nat (a b : Nat) (ha : a < 18446744073709551616) (hb : b < 18446744073709551616) :
    bits .and .u64 (a : Int) (b : Int) = ((a &&& b : Nat) : Int) := by
  have hx : a &&& b ≤ a := Nat.and_le_left
  show IntKind.u64.wrap ((BitVec.ofInt 64 (a : Int) &&& BitVec.ofInt 64 (b : Int)).toNat : Int) = _
  rw [BitVec.toNat_and, ofInt_nat a ha, ofInt_nat b hb, IntKind.wrap_u64]
  omega
theorem bits_or_nat (a b : Nat) (ha : a < 18446744073709551616) (hb : b < 18446744073709551616) :
    bits .or .u64 (a : Int) (b : Int) = ((a ||| b : Nat) : Int) := by
  have hx : a ||| b < 2 ^ 64 := Nat.or_lt_two_pow (by omega) (by omega)
  show IntKind.u64.wrap ((BitVec.ofInt 64 (a : Int) ||| BitVec.ofInt 64 (b : Int)).toNat : Int) = _
  rw [BitVec.toNat_or, ofInt_nat a ha, ofInt_nat b hb, IntKind.wrap_u64]
  omega

theorem and_20 (n : Int) (h : U64 n) : bits .and .u64 n 1048575 = n % 1048576 := by
  obtain ⟨k, rfl, hk⟩ := h.nat
  rw [show (1048575 : Int) = ((1048575 : Nat) : Int) from rfl, bits_and_nat k 1048575 hk (by omega)]
  rw [show k &&& 1048575 = k % 1048576 from Nat.and_two_pow_sub_one_eq_mod k 20]
  omega
theorem or_low (i : Nat) (a b : Nat) (hb : b < 2 ^ i) : (2 ^ i * a) ||| b = 2 ^ i * a + b := (Nat.two_pow_add_eq_or_of_lt hb a).symm

theorem or_20 (n m : Int) (h : U64 n) (h4 : n % 1048576 = 0) (h0 : 0 ≤ m) (h1 : m < 1048576) : bits .or .u64 m n = m + n := by
  obtain ⟨k, rfl, hk⟩ := h.nat
  obtain ⟨j, rfl⟩ := Int.eq_ofNat_of_zero_le h0
  rw [bits_or_nat j k (by omega) hk, Nat.or_comm]
  have e : k = 2 ^ 20 * (k / 1048576) := by omega
  rw [e, or_low 20 (k / 1048576) j (by omega)]
  omega
end Go.Proofs.Ytjokaginolpbeaa

namespace Go.Proofs.Ytjokaginolpbeaa
open Go.RowKit

/-! What the words are, as numbers. -/
def isRef (r : Int) : Prop := 0 ≤ r ∧ r < 1048576
def topF (r t : Int) : Int := bits .or .u64 (IntKind.u64.wrap r) (IntKind.u64.wrap (t * 1048576))
def firstF (w : Int) : Int := w % 1048576
def tagF (w : Int) : Int := w / 1048576
theorem ret_int {k : IntKind} {a b : Int} (h : a = b) : Ending.returned (.int k a) = .returned (.int k b) := by rw [h]
theorem wrap64_small (n : Int) (h0 : 0 ≤ n) (h1 : n < 9223372036854775808) : wrap64 n = n := IntWalk.wrap64_in n ⟨by omega, by omega⟩
theorem top_ref {r t : Int} (h : isRef r) (_ht : U64 t) : topF r t = r + (t % 17592186044416) * 1048576 := by
  obtain ⟨h0, h1⟩ := h
  unfold topF
  have e : IntKind.u64.wrap r = r := by rw [IntKind.wrap_u64]; omega
  rw [e, or_20 _ _ (u64_wrap _) (by rw [IntKind.wrap_u64]; omega) h0 h1, IntKind.wrap_u64]
  omega
theorem top_u64 (r t : Int) : U64 (topF r t) := by
  unfold topF
  obtain ⟨a, ha, ha'⟩ := (u64_wrap r).nat
  obtain ⟨b, hb, hb'⟩ := (u64_wrap (t * 1048576)).nat
  rw [ha, hb, bits_or_nat a b ha' hb']
  have hx : a ||| b < 2 ^ 64 := Nat.or_lt_two_pow (by omega) (by omega)
  exact ⟨by omega, by omega⟩
/-! The program's text. -/
end Go.Proofs.Ytjokaginolpbeaa

namespace Go.Proofs.Ytjokaginolpbeaa
open Go.RowKit

/-! Memories' places and words, as numbers. -/
def mayB (t c : Int) : Bool := decide (1 ≤ t) && decide (t ≤ 64) && decide (0 ≤ c) && decide (c ≤ 65536)
theorem mayB_true {t c : Int} (h : mayB t c = true) : 1 ≤ t ∧ t ≤ 64 ∧ 0 ≤ c ∧ c ≤ 65536 := by
  simp [mayB] at h; omega
def rightM (t c : Int) (n : Nat) : Bool := mayB t c && ((n : Int) == 8 + t + 8 * c)
/-- how many words -/
def memL (t c : Nat) : Nat := 8 + t + 8 * c
/-- the words of a new memory, records ahead of r being linked -/
def newF (t c r i : Nat) : Int := if i = 1 then (min c 1 : Nat) else if 8 + t ≤ i ∧ (i - 8 - t) % 8 = 7 ∧ (i - 8 - t) / 8 + 1 < r then (((i - 8 - t) / 8 + 2 : Nat) : Int) else 0
def linkAt (t r : Nat) : Nat := 8 + t + 8 * (r - 1) + 7
theorem linkAt_lt {t c r : Nat} (h1 : 1 ≤ r) (h2 : r ≤ c) : linkAt t r < memL t c := by unfold linkAt memL; omega
theorem newF_step {t c r : Nat} (h1 : 1 ≤ r) (i : Nat) : newF t c (r + 1) i = if i = linkAt t r then ((r + 1 : Nat) : Int) else newF t c r i := by
  unfold newF linkAt
  by_cases hi : i = 1
  · rw [if_pos hi, if_neg (by omega), if_pos hi]
  · rw [if_neg hi, if_neg hi]
    by_cases hj : i = 8 + t + 8 * (r - 1) + 7
    · rw [if_pos hj, if_pos (by omega)]; congr 1; omega
    · rw [if_neg hj]
      by_cases hc : 8 + t ≤ i ∧ (i - 8 - t) % 8 = 7 ∧ (i - 8 - t) / 8 + 1 < r
      · rw [if_pos hc, if_pos (by omega)]
      · rw [if_neg hc, if_neg (by omega)]
theorem newF_zero (t c i : Nat) : newF t c 1 i = if i = 1 then ((min c 1 : Nat) : Int) else 0 := by
  unfold newF
  by_cases hi : i = 1
  · rw [if_pos hi, if_pos hi]
  · rw [if_neg hi, if_neg hi, if_neg (by omega)]
theorem newF_u64 {t c r i : Nat} (h1 : i < memL t c) (h2 : c ≤ 65536) : 0 ≤ newF t c r i ∧ newF t c r i ≤ 65537 := by
  unfold newF
  unfold memL at h1
  split
  · omega
  · split <;> omega
theorem newF_head {t c r : Nat} : newF t c r 1 = (min c 1 : Nat) := by simp [newF]
theorem newF_link {t c r : Nat} (h1 : 1 ≤ r) (h2 : r < c) : newF t c c (linkAt t r) = ((r + 1 : Nat) : Int) := by
  unfold newF linkAt
  rw [if_neg (by omega), if_pos (by omega)]; congr 1; omega
theorem newF_last {t c : Nat} (h1 : 1 ≤ c) : newF t c c (linkAt t c) = 0 := by
  unfold newF linkAt
  rw [if_neg (by omega), if_neg (by omega)]
end Go.Proofs.Ytjokaginolpbeaa

namespace Go.Proofs.Ytjokaginolpbeaa
open Go.RowKit

/-! Package cell. -/
theorem size_any (t c : Int) (h1 : -1000000 ≤ t) (h2 : t ≤ 1000000) (h3 : -1000000 ≤ c) (h4 : c ≤ 2000000) (w : World) :
  Calls Try.prog 128 #[.int .i64 t, .int .i64 c] w fun e w' => e = .returned (.int .i64 (8 + t + 8 * c)) ∧ w = w' := by
 go_enter Try.func128, Try.ntmps128
 go_wp2
 go_ret
 exact ⟨rfl, rfl⟩
theorem field_any (t r f : Int) (h1 : -1000000 ≤ t) (h2 : t ≤ 1000000) (h3 : -100000 ≤ r) (h4 : r ≤ 2000000) (h5 : -1000000 ≤ f) (h6 : f ≤ 1000000) (w : World) :
  Calls Try.prog 65 #[.int .i64 t, .int .i64 r, .int .i64 f] w fun e w' => e = .returned (.int .i64 (8 + t + 8 * (r - 1) + f)) ∧ w = w' := by
 go_enter Try.func65, Try.ntmps65
 go_wp2_with (go_at_call 128; refine (size_any t (r - 1) (by omega) (by omega) (by omega) (by omega) _).mono ?_; rintro e w' ⟨rfl, rfl⟩)
 go_ret
 exact ⟨rfl, rfl⟩
theorem top_any (r t : Int) (w : World) :
  Calls Try.prog 49 #[.int .i64 r, .int .u64 t] w fun e w' => e = .returned (.int .u64 (topF r t)) ∧ w = w' := by
 go_enter Try.func49, Try.ntmps49
 go_wp2
 go_ret
 exact ⟨rfl, rfl⟩
theorem info_u64 : (Try.prog.info? 22).map (fun i => (i.zero, i.size, i.bytes)) = some (some (.int .u64 0), 1, 8) := by kernel_rfl
/-- a memory in a box of its own, as it reads in whatever world behind -/
def MemBox (w : World) (b : Nat) (t c : Int) (g L : Nat) (f : Nat → Int) : Prop :=
 w.cell? ⟨b, 0, none⟩ = some (.int .i64 t) ∧ w.cell? ⟨b, 1, none⟩ = some (.int .i64 c) ∧ w.cell? ⟨b, 2, none⟩ = some (.slice (some ⟨g, 0, none⟩) L L) ∧ ∀ i, i < L → w.cell? ⟨g, i, none⟩ = some (.int .u64 (f i))
theorem MemBox.ext {w w' : World} {b : Nat} {t c : Int} {g L : Nat} {f : Nat → Int} (h : MemBox w b t c g L f) (hx : Ext w w') : MemBox w' b t c g L f :=
 ⟨hx.cell h.1, hx.cell h.2.1, hx.cell h.2.2.1, fun i hi => hx.cell (h.2.2.2 i hi)⟩
theorem MemBox.new {w : World} {t c : Int} {g L : Nat} {f : Nat → Int} (h : WordsAt w g L f) : MemBox (w.alloc (.cells #[.int .i64 t, .int .i64 c, .slice (some ⟨g, 0, none⟩) L L] 45)) w.heap.size t c g L f := by
 refine ⟨by simp [go_sem], by simp [go_sem], by simp [go_sem], fun i hi => ?_⟩
 have hx : Ext w (w.alloc (.cells #[.int .i64 t, .int .i64 c, .slice (some ⟨g, 0, none⟩) L L] 45)) := (Below.refl _ w).alloc (Nat.le_refl _) _
 exact hx.cell (h i hi).1
end Go.Proofs.Ytjokaginolpbeaa
