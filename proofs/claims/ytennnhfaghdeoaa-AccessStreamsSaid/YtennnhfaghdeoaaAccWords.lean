import Derived.Test.YtennnhfaghdeoaaAccTurns
import Derived.Deep.CutRange
import Derived.Laws.EntriesVeiled
namespace Go.Proofs.Ytennnhfaghdeoaa
open Go.RowKit

/-! access.words. -/
/-- what access.words answers -/
def WordsPost (T C : Int) (q : Nat) (ws' : List Int) (r : ResK) (e : Ending) (w w' : World) : Prop := ∃ (A' : Option Addr) (c' : Nat), e = .returned (.tuple #[.agg #[.int .i64 T, .int .i64 C, .slice A' q c'], .agg #[.int .u64 r.N, .slice none 0 0, .bool false]]) ∧ WordsV w' A' q c' ws' ∧ Ext w w'
set_option maxRecDepth 100000 in
set_option maxHeartbeats 2000000 in
theorem words_any (T C : Int) (A : Option Addr) (q c : Nat) (ws : List Int) (k ce a b : Int) (D : Option Addr) (m cd : Nat) (B : Option Addr) (q2 cb : Nat) (dat : List UInt8) (wd : List Int) (w : World) (hA : WordsV w A q c ws) (hq : q ≤ 1000000) (ha : 0 ≤ a ∧ a < 18446744073709551616) (hb : 0 ≤ b ∧ b < 18446744073709551616) :
  Calls Try.prog 81 #[.agg #[.int .i64 T, .int .i64 C, .slice A q c], .agg #[.int .i64 k, .int .i64 ce, .int .u64 a, .int .u64 b, .slice D m cd, .slice B q2 cb]] w fun e w' => WordsPost T C q (wordsK ws ⟨k, ce, a, b, dat, wd⟩) (wordsR ws ⟨k, ce, a, b, dat, wd⟩) e w w' := by
 have hb0 : ∀ W : World, (Instr.build 51 #[]).run Try.prog W = .ok (.agg #[.int .u64 0, .slice none 0 0, .bool false]) W := fun _ => by kernel_rfl
 have hb1 : ∀ (W : World) (z : Int), (Instr.build 51 #[(0, .int .u64 z)]).run Try.prog W = .ok (.agg #[.int .u64 z, .slice none 0 0, .bool false]) W := fun _ _ => by kernel_rfl
 have hlen := hA.len
 go_enter Try.func81, Try.ntmps81
 go_upto_region 1 with (fail)
 obtain ⟨hW, hE, hG, hO, hP⟩ := boxes4 w (.cells #[.int .i64 T, .int .i64 C, .slice A q c] 25) (.cells #[.int .i64 k, .int .i64 ce, .int .u64 a, .int .u64 b, .slice D m cd, .slice B q2 cb] 42) (.cells #[.int .i64 0, .int .i64 0, .slice none 0 0] 25) (.cells #[.int .u64 0, .slice none 0 0, .bool false] 51)
 generalize (((w.alloc (.cells #[.int .i64 T, .int .i64 C, .slice A q c] 25)).alloc (.cells #[.int .i64 k, .int .i64 ce, .int .u64 a, .int .u64 b, .slice D m cd, .slice B q2 cb] 42)).alloc (.cells #[.int .i64 0, .int .i64 0, .slice none 0 0] 25)).alloc (.cells #[.int .u64 0, .slice none 0 0, .bool false] 51) = W at *
 have hlt : w.heap.size + 1 + 1 + 1 < W.heap.size := (Array.getElem?_eq_some_iff.1 hP).1
 have e0 : W.cell? ⟨w.heap.size, 0, none⟩ = some (.int .i64 T) := by simp [World.cell?, hE]
 have ef0 : W.frozen? ⟨w.heap.size, 0, none⟩ = false := by simp [World.frozen?, hE]
 have e1 : W.cell? ⟨w.heap.size, 1, none⟩ = some (.int .i64 C) := by simp [World.cell?, hE]
 have ef1 : W.frozen? ⟨w.heap.size, 1, none⟩ = false := by simp [World.frozen?, hE]
 have e2 : W.cell? ⟨w.heap.size, 2, none⟩ = some (.slice A q c) := by simp [World.cell?, hE]
 have ef2 : W.frozen? ⟨w.heap.size, 2, none⟩ = false := by simp [World.frozen?, hE]
 have g0 : W.cell? ⟨w.heap.size + 1, 0, none⟩ = some (.int .i64 k) := by simp [World.cell?, hG]
 have g1 : W.cell? ⟨w.heap.size + 1, 1, none⟩ = some (.int .i64 ce) := by simp [World.cell?, hG]
 have g2 : W.cell? ⟨w.heap.size + 1, 2, none⟩ = some (.int .u64 a) := by simp [World.cell?, hG]
 have g3 : W.cell? ⟨w.heap.size + 1, 3, none⟩ = some (.int .u64 b) := by simp [World.cell?, hG]
 have g4 : W.cell? ⟨w.heap.size + 1, 4, none⟩ = some (.slice D m cd) := by simp [World.cell?, hG]
 have g5 : W.cell? ⟨w.heap.size + 1, 5, none⟩ = some (.slice B q2 cb) := by simp [World.cell?, hG]
 have o0 : W.cell? ⟨w.heap.size + 1 + 1, 0, none⟩ = some (.int .i64 0) := by simp [World.cell?, hO]
 have of0 : W.frozen? ⟨w.heap.size + 1 + 1, 0, none⟩ = false := by simp [World.frozen?, hO]
 have o1 : W.cell? ⟨w.heap.size + 1 + 1, 1, none⟩ = some (.int .i64 0) := by simp [World.cell?, hO]
 have of1 : W.frozen? ⟨w.heap.size + 1 + 1, 1, none⟩ = false := by simp [World.frozen?, hO]
 have o2 : W.cell? ⟨w.heap.size + 1 + 1, 2, none⟩ = some (.slice none 0 0) := by simp [World.cell?, hO]
 have of2 : W.frozen? ⟨w.heap.size + 1 + 1, 2, none⟩ = false := by simp [World.frozen?, hO]
 have p0 : W.cell? ⟨w.heap.size + 1 + 1 + 1, 0, none⟩ = some (.int .u64 0) := by simp [World.cell?, hP]
 have pf0 : W.frozen? ⟨w.heap.size + 1 + 1 + 1, 0, none⟩ = false := by simp [World.frozen?, hP]
 have p1 : W.cell? ⟨w.heap.size + 1 + 1 + 1, 1, none⟩ = some (.slice none 0 0) := by simp [World.cell?, hP]
 have pf1 : W.frozen? ⟨w.heap.size + 1 + 1 + 1, 1, none⟩ = false := by simp [World.frozen?, hP]
 have p2 : W.cell? ⟨w.heap.size + 1 + 1 + 1, 2, none⟩ = some (.bool false) := by simp [World.cell?, hP]
 have pf2 : W.frozen? ⟨w.heap.size + 1 + 1 + 1, 2, none⟩ = false := by simp [World.frozen?, hP]
 by_cases hin : ¬ (0 ≤ ce ∧ ce < (q : Int))
 ·have hno : inW ws.length ⟨k, ce, a, b, dat, wd⟩ = false := by
   rw [Bool.eq_false_iff]; intro h; exact hin ⟨(inW_iff.1 h).2.2.1, by rw [← hlen]; exact (inW_iff.1 h).2.2.2⟩
  have hwk : wordsK ws ⟨k, ce, a, b, dat, wd⟩ = ws := by simp [wordsK, hno]
  have hwr : wordsR ws ⟨k, ce, a, b, dat, wd⟩ = ResK.zero := by simp [wordsR, hno]
  have hfin := hW
  clear hE hG hlt
  by_cases hc0 : ce < 0
  ·have hF : Ext w ((((((W.setCell ⟨w.heap.size + 1 + 1, 0, none⟩ (.int .i64 T)).setCell ⟨w.heap.size + 1 + 1, 1, none⟩ (.int .i64 C)).setCell ⟨w.heap.size + 1 + 1, 2, none⟩ (.slice A q c)).setCell ⟨w.heap.size + 1 + 1 + 1, 0, none⟩ (.int .u64 0)).setCell ⟨w.heap.size + 1 + 1 + 1, 1, none⟩ (.slice none 0 0)).setCell ⟨w.heap.size + 1 + 1 + 1, 2, none⟩ (.bool false)) := setAll_ext (g := w.heap.size + 1 + 1 + 1) (vs := [.int .u64 0, .slice none 0 0, .bool false]) (i := 0) (setAll_ext (g := w.heap.size + 1 + 1) (vs := [.int .i64 T, .int .i64 C, .slice A q c]) (i := 0) hfin (by omega)) (by omega)
   have hfO : ((((((W.setCell ⟨w.heap.size + 1 + 1, 0, none⟩ (.int .i64 T)).setCell ⟨w.heap.size + 1 + 1, 1, none⟩ (.int .i64 C)).setCell ⟨w.heap.size + 1 + 1, 2, none⟩ (.slice A q c)).setCell ⟨w.heap.size + 1 + 1 + 1, 0, none⟩ (.int .u64 0)).setCell ⟨w.heap.size + 1 + 1 + 1, 1, none⟩ (.slice none 0 0)).setCell ⟨w.heap.size + 1 + 1 + 1, 2, none⟩ (.bool false)).heap[w.heap.size + 1 + 1]? = some (.cells #[.int .i64 T, .int .i64 C, .slice A q c] 25 (0, 0)) := (setAll_other (g := w.heap.size + 1 + 1 + 1) (by omega) [.int .u64 0, .slice none 0 0, .bool false] 0 (setAll (w.heap.size + 1 + 1) 0 [.int .i64 T, .int .i64 C, .slice A q c] W)).trans (setAll_all (vs := [.int .i64 T, .int .i64 C, .slice A q c]) hO rfl)
   have hfP : ((((((W.setCell ⟨w.heap.size + 1 + 1, 0, none⟩ (.int .i64 T)).setCell ⟨w.heap.size + 1 + 1, 1, none⟩ (.int .i64 C)).setCell ⟨w.heap.size + 1 + 1, 2, none⟩ (.slice A q c)).setCell ⟨w.heap.size + 1 + 1 + 1, 0, none⟩ (.int .u64 0)).setCell ⟨w.heap.size + 1 + 1 + 1, 1, none⟩ (.slice none 0 0)).setCell ⟨w.heap.size + 1 + 1 + 1, 2, none⟩ (.bool false)).heap[w.heap.size + 1 + 1 + 1]? = some (.cells #[.int .u64 0, .slice none 0 0, .bool false] 51 (0, 0)) := setAll_all (vs := [.int .u64 0, .slice none 0 0, .bool false]) ((setAll_other (g := w.heap.size + 1 + 1) (by omega) [.int .i64 T, .int .i64 C, .slice A q c] 0 W).trans hP) rfl
   clear hO hP
   go_wp2
   generalize ((((((W.setCell ⟨w.heap.size + 1 + 1, 0, none⟩ (.int .i64 T)).setCell ⟨w.heap.size + 1 + 1, 1, none⟩ (.int .i64 C)).setCell ⟨w.heap.size + 1 + 1, 2, none⟩ (.slice A q c)).setCell ⟨w.heap.size + 1 + 1 + 1, 0, none⟩ (.int .u64 0)).setCell ⟨w.heap.size + 1 + 1 + 1, 1, none⟩ (.slice none 0 0)).setCell ⟨w.heap.size + 1 + 1 + 1, 2, none⟩ (.bool false)) = wf at *
   clear o0 o1 o2 p0 p1 p2
   have o0 : wf.cell? ⟨w.heap.size + 1 + 1, 0, none⟩ = some (.int .i64 T) := by simp [World.cell?, hfO]
   have o1 : wf.cell? ⟨w.heap.size + 1 + 1, 1, none⟩ = some (.int .i64 C) := by simp [World.cell?, hfO]
   have o2 : wf.cell? ⟨w.heap.size + 1 + 1, 2, none⟩ = some (.slice A q c) := by simp [World.cell?, hfO]
   have p0 : wf.cell? ⟨w.heap.size + 1 + 1 + 1, 0, none⟩ = some (.int .u64 0) := by simp [World.cell?, hfP]
   have p1 : wf.cell? ⟨w.heap.size + 1 + 1 + 1, 1, none⟩ = some (.slice none 0 0) := by simp [World.cell?, hfP]
   have p2 : wf.cell? ⟨w.heap.size + 1 + 1 + 1, 2, none⟩ = some (.bool false) := by simp [World.cell?, hfP]
   refine bodyPost_ret (v := .tuple #[.agg #[.int .i64 T, .int .i64 C, .slice A q c], .agg #[.int .u64 0, .slice none 0 0, .bool false]]) (by simp [results, Try.results81, go_sem, o0, o1, o2, p0, p1, p2]) rfl ?_
   try rw [hwk]
   try rw [hwr]
   exact ⟨A, c, rfl, hA.ext hF, hF⟩
  ·have hc1 : (q : Int) ≤ ce := by omega
   have hF : Ext w ((((((W.setCell ⟨w.heap.size + 1 + 1, 0, none⟩ (.int .i64 T)).setCell ⟨w.heap.size + 1 + 1, 1, none⟩ (.int .i64 C)).setCell ⟨w.heap.size + 1 + 1, 2, none⟩ (.slice A q c)).setCell ⟨w.heap.size + 1 + 1 + 1, 0, none⟩ (.int .u64 0)).setCell ⟨w.heap.size + 1 + 1 + 1, 1, none⟩ (.slice none 0 0)).setCell ⟨w.heap.size + 1 + 1 + 1, 2, none⟩ (.bool false)) := setAll_ext (g := w.heap.size + 1 + 1 + 1) (vs := [.int .u64 0, .slice none 0 0, .bool false]) (i := 0) (setAll_ext (g := w.heap.size + 1 + 1) (vs := [.int .i64 T, .int .i64 C, .slice A q c]) (i := 0) hfin (by omega)) (by omega)
   have hfO : ((((((W.setCell ⟨w.heap.size + 1 + 1, 0, none⟩ (.int .i64 T)).setCell ⟨w.heap.size + 1 + 1, 1, none⟩ (.int .i64 C)).setCell ⟨w.heap.size + 1 + 1, 2, none⟩ (.slice A q c)).setCell ⟨w.heap.size + 1 + 1 + 1, 0, none⟩ (.int .u64 0)).setCell ⟨w.heap.size + 1 + 1 + 1, 1, none⟩ (.slice none 0 0)).setCell ⟨w.heap.size + 1 + 1 + 1, 2, none⟩ (.bool false)).heap[w.heap.size + 1 + 1]? = some (.cells #[.int .i64 T, .int .i64 C, .slice A q c] 25 (0, 0)) := (setAll_other (g := w.heap.size + 1 + 1 + 1) (by omega) [.int .u64 0, .slice none 0 0, .bool false] 0 (setAll (w.heap.size + 1 + 1) 0 [.int .i64 T, .int .i64 C, .slice A q c] W)).trans (setAll_all (vs := [.int .i64 T, .int .i64 C, .slice A q c]) hO rfl)
   have hfP : ((((((W.setCell ⟨w.heap.size + 1 + 1, 0, none⟩ (.int .i64 T)).setCell ⟨w.heap.size + 1 + 1, 1, none⟩ (.int .i64 C)).setCell ⟨w.heap.size + 1 + 1, 2, none⟩ (.slice A q c)).setCell ⟨w.heap.size + 1 + 1 + 1, 0, none⟩ (.int .u64 0)).setCell ⟨w.heap.size + 1 + 1 + 1, 1, none⟩ (.slice none 0 0)).setCell ⟨w.heap.size + 1 + 1 + 1, 2, none⟩ (.bool false)).heap[w.heap.size + 1 + 1 + 1]? = some (.cells #[.int .u64 0, .slice none 0 0, .bool false] 51 (0, 0)) := setAll_all (vs := [.int .u64 0, .slice none 0 0, .bool false]) ((setAll_other (g := w.heap.size + 1 + 1) (by omega) [.int .i64 T, .int .i64 C, .slice A q c] 0 W).trans hP) rfl
   clear hO hP
   go_wp2
   generalize ((((((W.setCell ⟨w.heap.size + 1 + 1, 0, none⟩ (.int .i64 T)).setCell ⟨w.heap.size + 1 + 1, 1, none⟩ (.int .i64 C)).setCell ⟨w.heap.size + 1 + 1, 2, none⟩ (.slice A q c)).setCell ⟨w.heap.size + 1 + 1 + 1, 0, none⟩ (.int .u64 0)).setCell ⟨w.heap.size + 1 + 1 + 1, 1, none⟩ (.slice none 0 0)).setCell ⟨w.heap.size + 1 + 1 + 1, 2, none⟩ (.bool false)) = wf at *
   clear o0 o1 o2 p0 p1 p2
   have o0 : wf.cell? ⟨w.heap.size + 1 + 1, 0, none⟩ = some (.int .i64 T) := by simp [World.cell?, hfO]
   have o1 : wf.cell? ⟨w.heap.size + 1 + 1, 1, none⟩ = some (.int .i64 C) := by simp [World.cell?, hfO]
   have o2 : wf.cell? ⟨w.heap.size + 1 + 1, 2, none⟩ = some (.slice A q c) := by simp [World.cell?, hfO]
   have p0 : wf.cell? ⟨w.heap.size + 1 + 1 + 1, 0, none⟩ = some (.int .u64 0) := by simp [World.cell?, hfP]
   have p1 : wf.cell? ⟨w.heap.size + 1 + 1 + 1, 1, none⟩ = some (.slice none 0 0) := by simp [World.cell?, hfP]
   have p2 : wf.cell? ⟨w.heap.size + 1 + 1 + 1, 2, none⟩ = some (.bool false) := by simp [World.cell?, hfP]
   refine bodyPost_ret (v := .tuple #[.agg #[.int .i64 T, .int .i64 C, .slice A q c], .agg #[.int .u64 0, .slice none 0 0, .bool false]]) (by simp [results, Try.results81, go_sem, o0, o1, o2, p0, p1, p2]) rfl ?_
   try rw [hwk]
   try rw [hwr]
   exact ⟨A, c, rfl, hA.ext hF, hF⟩
 ·obtain ⟨hc0, hc1⟩ := Classical.not_not.1 hin
  have hc0' : ¬ ce < 0 := by omega
  have hc1' : ¬ (q : Int) ≤ ce := by omega
  obtain ⟨i, rfl⟩ := Int.eq_ofNat_of_zero_le hc0
  have hiq : i < q := by omega
  have hil : i < ws.length := by omega
  obtain ⟨a0, rfl, hac, hr1, hr2⟩ := hA.at hiq
  have hac' := hW.cell hac
  generalize hold : ws.getD i 0 = old at *
  go_upto_region 4 with (fail)
  go_wp2_with fail
  refine (turns_any W).mono ?_
  rintro e w1 ⟨rfl, hT, hx1⟩
  replace hE := heap_ext hE hx1
  replace hG := heap_ext hG hx1
  replace hO := heap_ext hO hx1
  replace hP := heap_ext hP hx1
  replace hW := hW.trans hx1
  have hlt1 : W.heap.size < w1.heap.size := (Array.getElem?_eq_some_iff.1 hT).1
  clear hac' hac e0 e1 e2 ef0 ef1 ef2 g0 g1 g2 g3 g4 g5 o0 o1 o2 of0 of1 of2 p0 p1 p2 pf0 pf1 pf2 hx1
  generalize hgT : W.heap.size = gT at *
  have HE := Lib.hid hE
  have HG := Lib.hid hG
  have HO := Lib.hid hO
  have HP := Lib.hid hP
  have HT := Lib.hid hT
  have HLT := Lib.hid hlt
  clear hE hG hO hP hT hgT hlt1 hlt
  go_wp2
  go_loopw [32, 8] (fun iv t8 wr => Ext w1 wr ∧ ∃ j : Nat, iv = .int .i64 (j : Int) ∧ j ≤ 5 ∧ ∀ x : Nat, x < j → k ≠ (x : Int)) (fun iv _ _ => 5 - (intOf iv).toNat)
  case atStart => exact ⟨Ext.refl _, 0, rfl, by omega, fun x hx => absurd hx (Nat.not_lt_zero _)⟩
  case round =>
   obtain ⟨hx, j, rfl, hj, hkj⟩ := hrel
   have hTr := heap_ext HT.out hx
   have hEr := heap_ext HE.out hx
   have hGr := heap_ext HG.out hx
   have hOr := heap_ext HO.out hx
   have hPr := heap_ext HP.out hx
   have hWr := hW.trans hx
   have hlr : gT < wr.heap.size := (Array.getElem?_eq_some_iff.1 hTr).1
   rcases Nat.lt_or_ge j 5 with hj5 | hj5
   ·obtain ⟨t0, t1⟩ := tab_at hTr hj5
    have hcF := call_all hj5
    have htF := fun V => turn_all hj5 old k (i : Int) a b D m cd B q2 cb V
    generalize fT j = F at *
    have hj5I : (j : Int) < 5 := by omega
    go_upto_region 7 with (fail)
    have hx2 : Ext wr (wr.alloc (.cells #[.int .i64 (j : Int), .func (.func F) #[] #[]] 150)) := (Below.refl _ wr).alloc (Nat.le_refl _) _
    have hB := heap_alloc_new wr (.cells #[.int .i64 (j : Int), .func (.func F) #[] #[]] 150)
    replace hEr := heap_ext hEr hx2
    replace hGr := heap_ext hGr hx2
    replace hOr := heap_ext hOr hx2
    replace hPr := heap_ext hPr hx2
    replace hWr := hWr.trans hx2
    replace hx := hx.trans hx2
    have hlr2 : gT < wr.heap.size := hlr
    clear t0 t1 hTr
    generalize wr.alloc (.cells #[.int .i64 (j : Int), .func (.func F) #[] #[]] 150) = V at *
    generalize wr.heap.size = gV at *
    clear hx2
    have b0 : V.cell? ⟨gV, 0, none⟩ = some (.int .i64 (j : Int)) := by simp [World.cell?, hB]
    have b1 : V.cell? ⟨gV, 1, none⟩ = some (.func (.func F) #[] #[]) := by simp [World.cell?, hB]
    have e0 : V.cell? ⟨w.heap.size, 0, none⟩ = some (.int .i64 T) := by simp [World.cell?, hEr]
    have ef0 : V.frozen? ⟨w.heap.size, 0, none⟩ = false := by simp [World.frozen?, hEr]
    have e1 : V.cell? ⟨w.heap.size, 1, none⟩ = some (.int .i64 C) := by simp [World.cell?, hEr]
    have ef1 : V.frozen? ⟨w.heap.size, 1, none⟩ = false := by simp [World.frozen?, hEr]
    have e2 : V.cell? ⟨w.heap.size, 2, none⟩ = some (.slice (some a0) q c) := by simp [World.cell?, hEr]
    have ef2 : V.frozen? ⟨w.heap.size, 2, none⟩ = false := by simp [World.frozen?, hEr]
    have g0 : V.cell? ⟨w.heap.size + 1, 0, none⟩ = some (.int .i64 k) := by simp [World.cell?, hGr]
    have g1 : V.cell? ⟨w.heap.size + 1, 1, none⟩ = some (.int .i64 (i : Int)) := by simp [World.cell?, hGr]
    have g2 : V.cell? ⟨w.heap.size + 1, 2, none⟩ = some (.int .u64 a) := by simp [World.cell?, hGr]
    have g3 : V.cell? ⟨w.heap.size + 1, 3, none⟩ = some (.int .u64 b) := by simp [World.cell?, hGr]
    have g4 : V.cell? ⟨w.heap.size + 1, 4, none⟩ = some (.slice D m cd) := by simp [World.cell?, hGr]
    have g5 : V.cell? ⟨w.heap.size + 1, 5, none⟩ = some (.slice B q2 cb) := by simp [World.cell?, hGr]
    have o0 : V.cell? ⟨w.heap.size + 1 + 1, 0, none⟩ = some (.int .i64 0) := by simp [World.cell?, hOr]
    have of0 : V.frozen? ⟨w.heap.size + 1 + 1, 0, none⟩ = false := by simp [World.frozen?, hOr]
    have o1 : V.cell? ⟨w.heap.size + 1 + 1, 1, none⟩ = some (.int .i64 0) := by simp [World.cell?, hOr]
    have of1 : V.frozen? ⟨w.heap.size + 1 + 1, 1, none⟩ = false := by simp [World.frozen?, hOr]
    have o2 : V.cell? ⟨w.heap.size + 1 + 1, 2, none⟩ = some (.slice none 0 0) := by simp [World.cell?, hOr]
    have of2 : V.frozen? ⟨w.heap.size + 1 + 1, 2, none⟩ = false := by simp [World.frozen?, hOr]
    have p0 : V.cell? ⟨w.heap.size + 1 + 1 + 1, 0, none⟩ = some (.int .u64 0) := by simp [World.cell?, hPr]
    have pf0 : V.frozen? ⟨w.heap.size + 1 + 1 + 1, 0, none⟩ = false := by simp [World.frozen?, hPr]
    have p1 : V.cell? ⟨w.heap.size + 1 + 1 + 1, 1, none⟩ = some (.slice none 0 0) := by simp [World.cell?, hPr]
    have pf1 : V.frozen? ⟨w.heap.size + 1 + 1 + 1, 1, none⟩ = false := by simp [World.frozen?, hPr]
    have p2 : V.cell? ⟨w.heap.size + 1 + 1 + 1, 2, none⟩ = some (.bool false) := by simp [World.cell?, hPr]
    have pf2 : V.frozen? ⟨w.heap.size + 1 + 1 + 1, 2, none⟩ = false := by simp [World.frozen?, hPr]
    by_cases hk : k = (j : Int)
    ·subst hk
     have hyes : inW ws.length ⟨(j : Int), (i : Int), a, b, dat, wd⟩ = true := inW_iff.2 ⟨by simp only; omega, by simp only; omega, by simp only; omega, by simp only; omega⟩
     have hwk : wordsK ws ⟨(j : Int), (i : Int), a, b, dat, wd⟩ = ws.set i (turnX (j : Int) old a b) := by
      unfold wordsK; rw [if_pos hyes]
      show ws.set (Int.toNat (i : Int)) (turnX (j : Int) (ws.getD (Int.toNat (i : Int)) 0) a b) = _
      rw [Int.toNat_natCast, hold]
     have hwr : wordsR ws ⟨(j : Int), (i : Int), a, b, dat, wd⟩ = ⟨turnN (j : Int) old a, [], false⟩ := by
      unfold wordsR; rw [if_pos hyes]
      show (⟨turnN (j : Int) (ws.getD (Int.toNat (i : Int)) 0) a, [], false⟩ : ResK) = _
      rw [Int.toNat_natCast, hold]
     clear hyes
     go_wp2_with fail
     refine (htF V).mono ?_
     rintro e w3 ⟨rfl, hx3⟩
     replace hEr := heap_ext hEr hx3
     replace hGr := heap_ext hGr hx3
     replace hOr := heap_ext hOr hx3
     replace hPr := heap_ext hPr hx3
     replace hWr := hWr.trans hx3
     clear e0 e1 e2 ef0 ef1 ef2 g0 g1 g2 g3 g4 g5 o0 o1 o2 of0 of1 of2 p0 p1 p2 pf0 pf1 pf2
     clear b0 b1 hB
     have hnr := turnX_rng (kind := (j : Int)) (b := b) ⟨hr1, hr2⟩ ha hb
     generalize turnX (j : Int) old a b = nx at *
     generalize turnN (j : Int) old a = nn at *
     clear htF hcF
     by_cases hne : nx = old
     ·have hset : ws.set i nx = ws := by
       rw [hne, ← hold]
       refine List.ext_getElem? fun x => ?_
       by_cases hxi : x = i
       ·subst hxi
        rw [List.getElem?_set_self hil, List.getElem?_eq_getElem hil]; simp [List.getD_eq_getElem?_getD, hil]
       ·rw [List.getElem?_set_ne (fun e => hxi e.symm)]
      rw [hset] at hwk
      subst hne
      have e0 : w3.cell? ⟨w.heap.size, 0, none⟩ = some (.int .i64 T) := by simp [World.cell?, hEr]
      have ef0 : w3.frozen? ⟨w.heap.size, 0, none⟩ = false := by simp [World.frozen?, hEr]
      have e1 : w3.cell? ⟨w.heap.size, 1, none⟩ = some (.int .i64 C) := by simp [World.cell?, hEr]
      have ef1 : w3.frozen? ⟨w.heap.size, 1, none⟩ = false := by simp [World.frozen?, hEr]
      have e2 : w3.cell? ⟨w.heap.size, 2, none⟩ = some (.slice (some a0) q c) := by simp [World.cell?, hEr]
      have ef2 : w3.frozen? ⟨w.heap.size, 2, none⟩ = false := by simp [World.frozen?, hEr]
      have g0 : w3.cell? ⟨w.heap.size + 1, 0, none⟩ = some (.int .i64 (j : Int)) := by simp [World.cell?, hGr]
      have g1 : w3.cell? ⟨w.heap.size + 1, 1, none⟩ = some (.int .i64 (i : Int)) := by simp [World.cell?, hGr]
      have g2 : w3.cell? ⟨w.heap.size + 1, 2, none⟩ = some (.int .u64 a) := by simp [World.cell?, hGr]
      have g3 : w3.cell? ⟨w.heap.size + 1, 3, none⟩ = some (.int .u64 b) := by simp [World.cell?, hGr]
      have g4 : w3.cell? ⟨w.heap.size + 1, 4, none⟩ = some (.slice D m cd) := by simp [World.cell?, hGr]
      have g5 : w3.cell? ⟨w.heap.size + 1, 5, none⟩ = some (.slice B q2 cb) := by simp [World.cell?, hGr]
      have o0 : w3.cell? ⟨w.heap.size + 1 + 1, 0, none⟩ = some (.int .i64 0) := by simp [World.cell?, hOr]
      have of0 : w3.frozen? ⟨w.heap.size + 1 + 1, 0, none⟩ = false := by simp [World.frozen?, hOr]
      have o1 : w3.cell? ⟨w.heap.size + 1 + 1, 1, none⟩ = some (.int .i64 0) := by simp [World.cell?, hOr]
      have of1 : w3.frozen? ⟨w.heap.size + 1 + 1, 1, none⟩ = false := by simp [World.frozen?, hOr]
      have o2 : w3.cell? ⟨w.heap.size + 1 + 1, 2, none⟩ = some (.slice none 0 0) := by simp [World.cell?, hOr]
      have of2 : w3.frozen? ⟨w.heap.size + 1 + 1, 2, none⟩ = false := by simp [World.frozen?, hOr]
      have p0 : w3.cell? ⟨w.heap.size + 1 + 1 + 1, 0, none⟩ = some (.int .u64 0) := by simp [World.cell?, hPr]
      have pf0 : w3.frozen? ⟨w.heap.size + 1 + 1 + 1, 0, none⟩ = false := by simp [World.frozen?, hPr]
      have p1 : w3.cell? ⟨w.heap.size + 1 + 1 + 1, 1, none⟩ = some (.slice none 0 0) := by simp [World.cell?, hPr]
      have pf1 : w3.frozen? ⟨w.heap.size + 1 + 1 + 1, 1, none⟩ = false := by simp [World.frozen?, hPr]
      have p2 : w3.cell? ⟨w.heap.size + 1 + 1 + 1, 2, none⟩ = some (.bool false) := by simp [World.cell?, hPr]
      have pf2 : w3.frozen? ⟨w.heap.size + 1 + 1 + 1, 2, none⟩ = false := by simp [World.frozen?, hPr]
      clear hEr hGr
      have hF : Ext w ((((((w3.setCell ⟨w.heap.size + 1 + 1, 0, none⟩ (.int .i64 T)).setCell ⟨w.heap.size + 1 + 1, 1, none⟩ (.int .i64 C)).setCell ⟨w.heap.size + 1 + 1, 2, none⟩ (.slice (some a0) q c)).setCell ⟨w.heap.size + 1 + 1 + 1, 0, none⟩ (.int .u64 nn)).setCell ⟨w.heap.size + 1 + 1 + 1, 1, none⟩ (.slice none 0 0)).setCell ⟨w.heap.size + 1 + 1 + 1, 2, none⟩ (.bool false)) := setAll_ext (g := w.heap.size + 1 + 1 + 1) (vs := [.int .u64 nn, .slice none 0 0, .bool false]) (i := 0) (setAll_ext (g := w.heap.size + 1 + 1) (vs := [.int .i64 T, .int .i64 C, .slice (some a0) q c]) (i := 0) hWr (by omega)) (by omega)
      have hfO : ((((((w3.setCell ⟨w.heap.size + 1 + 1, 0, none⟩ (.int .i64 T)).setCell ⟨w.heap.size + 1 + 1, 1, none⟩ (.int .i64 C)).setCell ⟨w.heap.size + 1 + 1, 2, none⟩ (.slice (some a0) q c)).setCell ⟨w.heap.size + 1 + 1 + 1, 0, none⟩ (.int .u64 nn)).setCell ⟨w.heap.size + 1 + 1 + 1, 1, none⟩ (.slice none 0 0)).setCell ⟨w.heap.size + 1 + 1 + 1, 2, none⟩ (.bool false)).heap[w.heap.size + 1 + 1]? = some (.cells #[.int .i64 T, .int .i64 C, .slice (some a0) q c] 25 (0, 0)) := (setAll_other (g := w.heap.size + 1 + 1 + 1) (by omega) [.int .u64 nn, .slice none 0 0, .bool false] 0 (setAll (w.heap.size + 1 + 1) 0 [.int .i64 T, .int .i64 C, .slice (some a0) q c] w3)).trans (setAll_all (vs := [.int .i64 T, .int .i64 C, .slice (some a0) q c]) hOr rfl)
      have hfP : ((((((w3.setCell ⟨w.heap.size + 1 + 1, 0, none⟩ (.int .i64 T)).setCell ⟨w.heap.size + 1 + 1, 1, none⟩ (.int .i64 C)).setCell ⟨w.heap.size + 1 + 1, 2, none⟩ (.slice (some a0) q c)).setCell ⟨w.heap.size + 1 + 1 + 1, 0, none⟩ (.int .u64 nn)).setCell ⟨w.heap.size + 1 + 1 + 1, 1, none⟩ (.slice none 0 0)).setCell ⟨w.heap.size + 1 + 1 + 1, 2, none⟩ (.bool false)).heap[w.heap.size + 1 + 1 + 1]? = some (.cells #[.int .u64 nn, .slice none 0 0, .bool false] 51 (0, 0)) := setAll_all (vs := [.int .u64 nn, .slice none 0 0, .bool false]) ((setAll_other (g := w.heap.size + 1 + 1) (by omega) [.int .i64 T, .int .i64 C, .slice (some a0) q c] 0 w3).trans hPr) rfl
      clear hOr hPr
      go_wp2
      generalize ((((((w3.setCell ⟨w.heap.size + 1 + 1, 0, none⟩ (.int .i64 T)).setCell ⟨w.heap.size + 1 + 1, 1, none⟩ (.int .i64 C)).setCell ⟨w.heap.size + 1 + 1, 2, none⟩ (.slice (some a0) q c)).setCell ⟨w.heap.size + 1 + 1 + 1, 0, none⟩ (.int .u64 nn)).setCell ⟨w.heap.size + 1 + 1 + 1, 1, none⟩ (.slice none 0 0)).setCell ⟨w.heap.size + 1 + 1 + 1, 2, none⟩ (.bool false)) = wf at *
      clear o0 o1 o2 p0 p1 p2
      have o0 : wf.cell? ⟨w.heap.size + 1 + 1, 0, none⟩ = some (.int .i64 T) := by simp [World.cell?, hfO]
      have o1 : wf.cell? ⟨w.heap.size + 1 + 1, 1, none⟩ = some (.int .i64 C) := by simp [World.cell?, hfO]
      have o2 : wf.cell? ⟨w.heap.size + 1 + 1, 2, none⟩ = some (.slice (some a0) q c) := by simp [World.cell?, hfO]
      have p0 : wf.cell? ⟨w.heap.size + 1 + 1 + 1, 0, none⟩ = some (.int .u64 nn) := by simp [World.cell?, hfP]
      have p1 : wf.cell? ⟨w.heap.size + 1 + 1 + 1, 1, none⟩ = some (.slice none 0 0) := by simp [World.cell?, hfP]
      have p2 : wf.cell? ⟨w.heap.size + 1 + 1 + 1, 2, none⟩ = some (.bool false) := by simp [World.cell?, hfP]
      refine bodyPost_ret (v := .tuple #[.agg #[.int .i64 T, .int .i64 C, .slice (some a0) q c], .agg #[.int .u64 nn, .slice none 0 0, .bool false]]) (by simp [results, Try.results81, go_sem, o0, o1, o2, p0, p1, p2]) rfl ?_
      try rw [hwk]
      try rw [hwr]
      exact ⟨some a0, c, rfl, hA.ext hF, hF⟩
     ·have hne' : (nx != old) = true := by simp [hne]
      have e0 : w3.cell? ⟨w.heap.size, 0, none⟩ = some (.int .i64 T) := by simp [World.cell?, hEr]
      have ef0 : w3.frozen? ⟨w.heap.size, 0, none⟩ = false := by simp [World.frozen?, hEr]
      have e1 : w3.cell? ⟨w.heap.size, 1, none⟩ = some (.int .i64 C) := by simp [World.cell?, hEr]
      have ef1 : w3.frozen? ⟨w.heap.size, 1, none⟩ = false := by simp [World.frozen?, hEr]
      have e2 : w3.cell? ⟨w.heap.size, 2, none⟩ = some (.slice (some a0) q c) := by simp [World.cell?, hEr]
      have ef2 : w3.frozen? ⟨w.heap.size, 2, none⟩ = false := by simp [World.frozen?, hEr]
      have g0 : w3.cell? ⟨w.heap.size + 1, 0, none⟩ = some (.int .i64 (j : Int)) := by simp [World.cell?, hGr]
      have g1 : w3.cell? ⟨w.heap.size + 1, 1, none⟩ = some (.int .i64 (i : Int)) := by simp [World.cell?, hGr]
      have g2 : w3.cell? ⟨w.heap.size + 1, 2, none⟩ = some (.int .u64 a) := by simp [World.cell?, hGr]
      have g3 : w3.cell? ⟨w.heap.size + 1, 3, none⟩ = some (.int .u64 b) := by simp [World.cell?, hGr]
      have g4 : w3.cell? ⟨w.heap.size + 1, 4, none⟩ = some (.slice D m cd) := by simp [World.cell?, hGr]
      have g5 : w3.cell? ⟨w.heap.size + 1, 5, none⟩ = some (.slice B q2 cb) := by simp [World.cell?, hGr]
      have o0 : w3.cell? ⟨w.heap.size + 1 + 1, 0, none⟩ = some (.int .i64 0) := by simp [World.cell?, hOr]
      have of0 : w3.frozen? ⟨w.heap.size + 1 + 1, 0, none⟩ = false := by simp [World.frozen?, hOr]
      have o1 : w3.cell? ⟨w.heap.size + 1 + 1, 1, none⟩ = some (.int .i64 0) := by simp [World.cell?, hOr]
      have of1 : w3.frozen? ⟨w.heap.size + 1 + 1, 1, none⟩ = false := by simp [World.frozen?, hOr]
      have o2 : w3.cell? ⟨w.heap.size + 1 + 1, 2, none⟩ = some (.slice none 0 0) := by simp [World.cell?, hOr]
      have of2 : w3.frozen? ⟨w.heap.size + 1 + 1, 2, none⟩ = false := by simp [World.frozen?, hOr]
      have p0 : w3.cell? ⟨w.heap.size + 1 + 1 + 1, 0, none⟩ = some (.int .u64 0) := by simp [World.cell?, hPr]
      have pf0 : w3.frozen? ⟨w.heap.size + 1 + 1 + 1, 0, none⟩ = false := by simp [World.frozen?, hPr]
      have p1 : w3.cell? ⟨w.heap.size + 1 + 1 + 1, 1, none⟩ = some (.slice none 0 0) := by simp [World.cell?, hPr]
      have pf1 : w3.frozen? ⟨w.heap.size + 1 + 1 + 1, 1, none⟩ = false := by simp [World.frozen?, hPr]
      have p2 : w3.cell? ⟨w.heap.size + 1 + 1 + 1, 2, none⟩ = some (.bool false) := by simp [World.cell?, hPr]
      have pf2 : w3.frozen? ⟨w.heap.size + 1 + 1 + 1, 2, none⟩ = false := by simp [World.frozen?, hPr]
      go_wp2_with fail
      refine (clone_words (some a0) q c ws w3 (hA.ext hWr) hq (by omega)).mono ?_
      rintro e w4 ⟨gN, cN, rfl, hown, hx4⟩
      have hl3 : w.heap.size + 1 + 1 + 1 < w3.heap.size := (Array.getElem?_eq_some_iff.1 hPr).1
      replace hEr := heap_ext hEr hx4
      replace hGr := heap_ext hGr hx4
      replace hOr := heap_ext hOr hx4
      replace hPr := heap_ext hPr hx4
      replace hWr := hWr.trans hx4
      clear e0 e1 e2 ef0 ef1 ef2 g0 g1 g2 g3 g4 g5 o0 o1 o2 of0 of1 of2 p0 p1 p2 pf0 pf1 pf2
      have e0 : w4.cell? ⟨w.heap.size, 0, none⟩ = some (.int .i64 T) := by simp [World.cell?, hEr]
      have ef0 : w4.frozen? ⟨w.heap.size, 0, none⟩ = false := by simp [World.frozen?, hEr]
      have e1 : w4.cell? ⟨w.heap.size, 1, none⟩ = some (.int .i64 C) := by simp [World.cell?, hEr]
      have ef1 : w4.frozen? ⟨w.heap.size, 1, none⟩ = false := by simp [World.frozen?, hEr]
      have e2 : w4.cell? ⟨w.heap.size, 2, none⟩ = some (.slice (some a0) q c) := by simp [World.cell?, hEr]
      have ef2 : w4.frozen? ⟨w.heap.size, 2, none⟩ = false := by simp [World.frozen?, hEr]
      have g0 : w4.cell? ⟨w.heap.size + 1, 0, none⟩ = some (.int .i64 (j : Int)) := by simp [World.cell?, hGr]
      have g1 : w4.cell? ⟨w.heap.size + 1, 1, none⟩ = some (.int .i64 (i : Int)) := by simp [World.cell?, hGr]
      have g2 : w4.cell? ⟨w.heap.size + 1, 2, none⟩ = some (.int .u64 a) := by simp [World.cell?, hGr]
      have g3 : w4.cell? ⟨w.heap.size + 1, 3, none⟩ = some (.int .u64 b) := by simp [World.cell?, hGr]
      have g4 : w4.cell? ⟨w.heap.size + 1, 4, none⟩ = some (.slice D m cd) := by simp [World.cell?, hGr]
      have g5 : w4.cell? ⟨w.heap.size + 1, 5, none⟩ = some (.slice B q2 cb) := by simp [World.cell?, hGr]
      have o0 : w4.cell? ⟨w.heap.size + 1 + 1, 0, none⟩ = some (.int .i64 0) := by simp [World.cell?, hOr]
      have of0 : w4.frozen? ⟨w.heap.size + 1 + 1, 0, none⟩ = false := by simp [World.frozen?, hOr]
      have o1 : w4.cell? ⟨w.heap.size + 1 + 1, 1, none⟩ = some (.int .i64 0) := by simp [World.cell?, hOr]
      have of1 : w4.frozen? ⟨w.heap.size + 1 + 1, 1, none⟩ = false := by simp [World.frozen?, hOr]
      have o2 : w4.cell? ⟨w.heap.size + 1 + 1, 2, none⟩ = some (.slice none 0 0) := by simp [World.cell?, hOr]
      have of2 : w4.frozen? ⟨w.heap.size + 1 + 1, 2, none⟩ = false := by simp [World.frozen?, hOr]
      have p0 : w4.cell? ⟨w.heap.size + 1 + 1 + 1, 0, none⟩ = some (.int .u64 0) := by simp [World.cell?, hPr]
      have pf0 : w4.frozen? ⟨w.heap.size + 1 + 1 + 1, 0, none⟩ = false := by simp [World.frozen?, hPr]
      have p1 : w4.cell? ⟨w.heap.size + 1 + 1 + 1, 1, none⟩ = some (.slice none 0 0) := by simp [World.cell?, hPr]
      have pf1 : w4.frozen? ⟨w.heap.size + 1 + 1 + 1, 1, none⟩ = false := by simp [World.frozen?, hPr]
      have p2 : w4.cell? ⟨w.heap.size + 1 + 1 + 1, 2, none⟩ = some (.bool false) := by simp [World.cell?, hPr]
      have pf2 : w4.frozen? ⟨w.heap.size + 1 + 1 + 1, 2, none⟩ = false := by simp [World.frozen?, hPr]
      obtain ⟨hgN1, hgN2⟩ := hown.base
      have hne0 : ¬ w.heap.size = gN := by omega
      go_upto_region 11 with (fail)
      have hE5 : (w4.setCell ⟨w.heap.size, 2, none⟩ (.slice (some ⟨gN, 0, none⟩) q cN)).heap[w.heap.size]? = some (.cells #[.int .i64 T, .int .i64 C, .slice (some ⟨gN, 0, none⟩) q cN] 25 (0, 0)) := heap_setCell_at hEr
      have hG5 : (w4.setCell ⟨w.heap.size, 2, none⟩ (.slice (some ⟨gN, 0, none⟩) q cN)).heap[w.heap.size + 1]? = _ := (Below.heap_setCell _ _ _ _ (by simp)).trans hGr
      have hO5 : (w4.setCell ⟨w.heap.size, 2, none⟩ (.slice (some ⟨gN, 0, none⟩) q cN)).heap[w.heap.size + 1 + 1]? = _ := (Below.heap_setCell _ _ _ _ (by simp; omega)).trans hOr
      have hP5 : (w4.setCell ⟨w.heap.size, 2, none⟩ (.slice (some ⟨gN, 0, none⟩) q cN)).heap[w.heap.size + 1 + 1 + 1]? = _ := (Below.heap_setCell _ _ _ _ (by simp; omega)).trans hPr
      have hW5 : Ext w (w4.setCell ⟨w.heap.size, 2, none⟩ (.slice (some ⟨gN, 0, none⟩) q cN)) := hWr.setCell (Nat.le_refl _) _
      replace hown := hown.kept (Below.heap_setCell w4 ⟨w.heap.size, 2, none⟩ (.slice (some ⟨gN, 0, none⟩) q cN) gN (by simp; omega))
      clear e0 e1 e2 ef0 ef1 ef2 g0 g1 g2 g3 g4 g5 o0 o1 o2 of0 of1 of2 p0 p1 p2 pf0 pf1 pf2
      clear hEr hGr hOr hPr hWr
      generalize w4.setCell ⟨w.heap.size, 2, none⟩ (.slice (some ⟨gN, 0, none⟩) q cN) = w5 at *
      have hEr := hE5
      have hGr := hG5
      have hOr := hO5
      have hPr := hP5
      obtain ⟨k0, k1⟩ := hown.at hil
      have e0 : w5.cell? ⟨w.heap.size, 0, none⟩ = some (.int .i64 T) := by simp [World.cell?, hEr]
      have ef0 : w5.frozen? ⟨w.heap.size, 0, none⟩ = false := by simp [World.frozen?, hEr]
      have e1 : w5.cell? ⟨w.heap.size, 1, none⟩ = some (.int .i64 C) := by simp [World.cell?, hEr]
      have ef1 : w5.frozen? ⟨w.heap.size, 1, none⟩ = false := by simp [World.frozen?, hEr]
      have e2 : w5.cell? ⟨w.heap.size, 2, none⟩ = some (.slice (some ⟨gN, 0, none⟩) q cN) := by simp [World.cell?, hEr]
      have ef2 : w5.frozen? ⟨w.heap.size, 2, none⟩ = false := by simp [World.frozen?, hEr]
      have g0 : w5.cell? ⟨w.heap.size + 1, 0, none⟩ = some (.int .i64 (j : Int)) := by simp [World.cell?, hGr]
      have g1 : w5.cell? ⟨w.heap.size + 1, 1, none⟩ = some (.int .i64 (i : Int)) := by simp [World.cell?, hGr]
      have g2 : w5.cell? ⟨w.heap.size + 1, 2, none⟩ = some (.int .u64 a) := by simp [World.cell?, hGr]
      have g3 : w5.cell? ⟨w.heap.size + 1, 3, none⟩ = some (.int .u64 b) := by simp [World.cell?, hGr]
      have g4 : w5.cell? ⟨w.heap.size + 1, 4, none⟩ = some (.slice D m cd) := by simp [World.cell?, hGr]
      have g5 : w5.cell? ⟨w.heap.size + 1, 5, none⟩ = some (.slice B q2 cb) := by simp [World.cell?, hGr]
      have o0 : w5.cell? ⟨w.heap.size + 1 + 1, 0, none⟩ = some (.int .i64 0) := by simp [World.cell?, hOr]
      have of0 : w5.frozen? ⟨w.heap.size + 1 + 1, 0, none⟩ = false := by simp [World.frozen?, hOr]
      have o1 : w5.cell? ⟨w.heap.size + 1 + 1, 1, none⟩ = some (.int .i64 0) := by simp [World.cell?, hOr]
      have of1 : w5.frozen? ⟨w.heap.size + 1 + 1, 1, none⟩ = false := by simp [World.frozen?, hOr]
      have o2 : w5.cell? ⟨w.heap.size + 1 + 1, 2, none⟩ = some (.slice none 0 0) := by simp [World.cell?, hOr]
      have of2 : w5.frozen? ⟨w.heap.size + 1 + 1, 2, none⟩ = false := by simp [World.frozen?, hOr]
      have p0 : w5.cell? ⟨w.heap.size + 1 + 1 + 1, 0, none⟩ = some (.int .u64 0) := by simp [World.cell?, hPr]
      have pf0 : w5.frozen? ⟨w.heap.size + 1 + 1 + 1, 0, none⟩ = false := by simp [World.frozen?, hPr]
      have p1 : w5.cell? ⟨w.heap.size + 1 + 1 + 1, 1, none⟩ = some (.slice none 0 0) := by simp [World.cell?, hPr]
      have pf1 : w5.frozen? ⟨w.heap.size + 1 + 1 + 1, 1, none⟩ = false := by simp [World.frozen?, hPr]
      have p2 : w5.cell? ⟨w.heap.size + 1 + 1 + 1, 2, none⟩ = some (.bool false) := by simp [World.cell?, hPr]
      have pf2 : w5.frozen? ⟨w.heap.size + 1 + 1 + 1, 2, none⟩ = false := by simp [World.frozen?, hPr]
      go_upto_region 12 with (fail)
      have hE6 : (w5.setCell ⟨gN, i, none⟩ (.int .u64 nx)).heap[w.heap.size]? = _ := (Below.heap_setCell _ _ _ _ (by simp; omega)).trans hE5
      have hO6 : (w5.setCell ⟨gN, i, none⟩ (.int .u64 nx)).heap[w.heap.size + 1 + 1]? = _ := (Below.heap_setCell _ _ _ _ (by simp; omega)).trans hO5
      have hP6 : (w5.setCell ⟨gN, i, none⟩ (.int .u64 nx)).heap[w.heap.size + 1 + 1 + 1]? = _ := (Below.heap_setCell _ _ _ _ (by simp; omega)).trans hP5
      have hW6 : Ext w (w5.setCell ⟨gN, i, none⟩ (.int .u64 nx)) := hW5.setCell (by simp; omega) _
      have hown6 := hown.set i nx
      clear e0 e1 e2 ef0 ef1 ef2 g0 g1 g2 g3 g4 g5 o0 o1 o2 of0 of1 of2 p0 p1 p2 pf0 pf1 pf2
      clear hE5 hG5 hO5 hP5 hW5 hEr hGr hOr hPr k0 k1 hown
      generalize w5.setCell ⟨gN, i, none⟩ (.int .u64 nx) = w6 at *
      have e0 : w6.cell? ⟨w.heap.size, 0, none⟩ = some (.int .i64 T) := by simp [World.cell?, hE6]
      have e1 : w6.cell? ⟨w.heap.size, 1, none⟩ = some (.int .i64 C) := by simp [World.cell?, hE6]
      have e2 : w6.cell? ⟨w.heap.size, 2, none⟩ = some (.slice (some ⟨gN, 0, none⟩) q cN) := by simp [World.cell?, hE6]
      have o0 : w6.cell? ⟨w.heap.size + 1 + 1, 0, none⟩ = some (.int .i64 0) := by simp [World.cell?, hO6]
      have of0 : w6.frozen? ⟨w.heap.size + 1 + 1, 0, none⟩ = false := by simp [World.frozen?, hO6]
      have o1 : w6.cell? ⟨w.heap.size + 1 + 1, 1, none⟩ = some (.int .i64 0) := by simp [World.cell?, hO6]
      have of1 : w6.frozen? ⟨w.heap.size + 1 + 1, 1, none⟩ = false := by simp [World.frozen?, hO6]
      have o2 : w6.cell? ⟨w.heap.size + 1 + 1, 2, none⟩ = some (.slice none 0 0) := by simp [World.cell?, hO6]
      have of2 : w6.frozen? ⟨w.heap.size + 1 + 1, 2, none⟩ = false := by simp [World.frozen?, hO6]
      have p0 : w6.cell? ⟨w.heap.size + 1 + 1 + 1, 0, none⟩ = some (.int .u64 0) := by simp [World.cell?, hP6]
      have pf0 : w6.frozen? ⟨w.heap.size + 1 + 1 + 1, 0, none⟩ = false := by simp [World.frozen?, hP6]
      have p1 : w6.cell? ⟨w.heap.size + 1 + 1 + 1, 1, none⟩ = some (.slice none 0 0) := by simp [World.cell?, hP6]
      have pf1 : w6.frozen? ⟨w.heap.size + 1 + 1 + 1, 1, none⟩ = false := by simp [World.frozen?, hP6]
      have p2 : w6.cell? ⟨w.heap.size + 1 + 1 + 1, 2, none⟩ = some (.bool false) := by simp [World.cell?, hP6]
      have pf2 : w6.frozen? ⟨w.heap.size + 1 + 1 + 1, 2, none⟩ = false := by simp [World.frozen?, hP6]
      clear hE6
      have hrng : ∀ z ∈ ws.set i nx, 0 ≤ z ∧ z < 18446744073709551616 := fun z hz => by
       rcases List.mem_or_eq_of_mem_set hz with h | rfl
       ·exact hA.rng z h
       ·exact hnr
      have hlq : (ws.set i nx).length = q := by simp [hlen]

      have hfz : ((((((w6.setCell ⟨w.heap.size + 1 + 1, 0, none⟩ (.int .i64 T)).setCell ⟨w.heap.size + 1 + 1, 1, none⟩ (.int .i64 C)).setCell ⟨w.heap.size + 1 + 1, 2, none⟩ (.slice (some ⟨gN, 0, none⟩) q cN)).setCell ⟨w.heap.size + 1 + 1 + 1, 0, none⟩ (.int .u64 nn)).setCell ⟨w.heap.size + 1 + 1 + 1, 1, none⟩ (.slice none 0 0)).setCell ⟨w.heap.size + 1 + 1 + 1, 2, none⟩ (.bool false)).heap[gN]? = w6.heap[gN]? := (setAll_other (g := w.heap.size + 1 + 1 + 1) (k := gN) (by omega) [.int .u64 nn, .slice none 0 0, .bool false] 0 _).trans (setAll_other (g := w.heap.size + 1 + 1) (k := gN) (by omega) [.int .i64 T, .int .i64 C, .slice (some ⟨gN, 0, none⟩) q cN] 0 w6)
      have hfo := fun (wz : World) (hz : wz.heap[gN]? = w6.heap[gN]?) => (hown6.kept hz).v hrng
      simp only [hlq] at hfo
      have hF : Ext w ((((((w6.setCell ⟨w.heap.size + 1 + 1, 0, none⟩ (.int .i64 T)).setCell ⟨w.heap.size + 1 + 1, 1, none⟩ (.int .i64 C)).setCell ⟨w.heap.size + 1 + 1, 2, none⟩ (.slice (some ⟨gN, 0, none⟩) q cN)).setCell ⟨w.heap.size + 1 + 1 + 1, 0, none⟩ (.int .u64 nn)).setCell ⟨w.heap.size + 1 + 1 + 1, 1, none⟩ (.slice none 0 0)).setCell ⟨w.heap.size + 1 + 1 + 1, 2, none⟩ (.bool false)) := setAll_ext (g := w.heap.size + 1 + 1 + 1) (vs := [.int .u64 nn, .slice none 0 0, .bool false]) (i := 0) (setAll_ext (g := w.heap.size + 1 + 1) (vs := [.int .i64 T, .int .i64 C, .slice (some ⟨gN, 0, none⟩) q cN]) (i := 0) hW6 (by omega)) (by omega)
      have hfO : ((((((w6.setCell ⟨w.heap.size + 1 + 1, 0, none⟩ (.int .i64 T)).setCell ⟨w.heap.size + 1 + 1, 1, none⟩ (.int .i64 C)).setCell ⟨w.heap.size + 1 + 1, 2, none⟩ (.slice (some ⟨gN, 0, none⟩) q cN)).setCell ⟨w.heap.size + 1 + 1 + 1, 0, none⟩ (.int .u64 nn)).setCell ⟨w.heap.size + 1 + 1 + 1, 1, none⟩ (.slice none 0 0)).setCell ⟨w.heap.size + 1 + 1 + 1, 2, none⟩ (.bool false)).heap[w.heap.size + 1 + 1]? = some (.cells #[.int .i64 T, .int .i64 C, .slice (some ⟨gN, 0, none⟩) q cN] 25 (0, 0)) := (setAll_other (g := w.heap.size + 1 + 1 + 1) (by omega) [.int .u64 nn, .slice none 0 0, .bool false] 0 (setAll (w.heap.size + 1 + 1) 0 [.int .i64 T, .int .i64 C, .slice (some ⟨gN, 0, none⟩) q cN] w6)).trans (setAll_all (vs := [.int .i64 T, .int .i64 C, .slice (some ⟨gN, 0, none⟩) q cN]) hO6 rfl)
      have hfP : ((((((w6.setCell ⟨w.heap.size + 1 + 1, 0, none⟩ (.int .i64 T)).setCell ⟨w.heap.size + 1 + 1, 1, none⟩ (.int .i64 C)).setCell ⟨w.heap.size + 1 + 1, 2, none⟩ (.slice (some ⟨gN, 0, none⟩) q cN)).setCell ⟨w.heap.size + 1 + 1 + 1, 0, none⟩ (.int .u64 nn)).setCell ⟨w.heap.size + 1 + 1 + 1, 1, none⟩ (.slice none 0 0)).setCell ⟨w.heap.size + 1 + 1 + 1, 2, none⟩ (.bool false)).heap[w.heap.size + 1 + 1 + 1]? = some (.cells #[.int .u64 nn, .slice none 0 0, .bool false] 51 (0, 0)) := setAll_all (vs := [.int .u64 nn, .slice none 0 0, .bool false]) ((setAll_other (g := w.heap.size + 1 + 1) (by omega) [.int .i64 T, .int .i64 C, .slice (some ⟨gN, 0, none⟩) q cN] 0 w6).trans hP6) rfl
      clear hO6 hP6
      go_wp2
      generalize ((((((w6.setCell ⟨w.heap.size + 1 + 1, 0, none⟩ (.int .i64 T)).setCell ⟨w.heap.size + 1 + 1, 1, none⟩ (.int .i64 C)).setCell ⟨w.heap.size + 1 + 1, 2, none⟩ (.slice (some ⟨gN, 0, none⟩) q cN)).setCell ⟨w.heap.size + 1 + 1 + 1, 0, none⟩ (.int .u64 nn)).setCell ⟨w.heap.size + 1 + 1 + 1, 1, none⟩ (.slice none 0 0)).setCell ⟨w.heap.size + 1 + 1 + 1, 2, none⟩ (.bool false)) = wf at *
      clear o0 o1 o2 p0 p1 p2
      have o0 : wf.cell? ⟨w.heap.size + 1 + 1, 0, none⟩ = some (.int .i64 T) := by simp [World.cell?, hfO]
      have o1 : wf.cell? ⟨w.heap.size + 1 + 1, 1, none⟩ = some (.int .i64 C) := by simp [World.cell?, hfO]
      have o2 : wf.cell? ⟨w.heap.size + 1 + 1, 2, none⟩ = some (.slice (some ⟨gN, 0, none⟩) q cN) := by simp [World.cell?, hfO]
      have p0 : wf.cell? ⟨w.heap.size + 1 + 1 + 1, 0, none⟩ = some (.int .u64 nn) := by simp [World.cell?, hfP]
      have p1 : wf.cell? ⟨w.heap.size + 1 + 1 + 1, 1, none⟩ = some (.slice none 0 0) := by simp [World.cell?, hfP]
      have p2 : wf.cell? ⟨w.heap.size + 1 + 1 + 1, 2, none⟩ = some (.bool false) := by simp [World.cell?, hfP]
      refine bodyPost_ret (v := .tuple #[.agg #[.int .i64 T, .int .i64 C, .slice (some ⟨gN, 0, none⟩) q cN], .agg #[.int .u64 nn, .slice none 0 0, .bool false]]) (by simp [results, Try.results81, go_sem, o0, o1, o2, p0, p1, p2]) rfl ?_
      try rw [hwk]
      try rw [hwr]
      exact ⟨some ⟨gN, 0, none⟩, cN, rfl, hfo _ hfz, hF⟩
    ·go_wp2
     go_roundw
     case rel => exact ⟨hx, j + 1, by go_num, by omega, fun x hxx => by
      by_cases h : x = j
      ·rw [h]; exact hk
      ·exact hkj x (by omega)⟩
     case measure => simp [intOf]; omega
   ·obtain rfl : j = 5 := by omega
    have hno : inW ws.length ⟨k, (i : Int), a, b, dat, wd⟩ = false := by
     rw [Bool.eq_false_iff]; intro h
     have h1 := (inW_iff.1 h).1
     have h2 := (inW_iff.1 h).2.1
     simp only at h1 h2
     have k0 := hkj 0 (by omega)
     have k1 := hkj 1 (by omega)
     have k2 := hkj 2 (by omega)
     have k3 := hkj 3 (by omega)
     have k4 := hkj 4 (by omega)
     omega
    have hwk : wordsK ws ⟨k, (i : Int), a, b, dat, wd⟩ = ws := by simp [wordsK, hno]
    have hwr : wordsR ws ⟨k, (i : Int), a, b, dat, wd⟩ = ResK.zero := by simp [wordsR, hno]
    have e0 : wr.cell? ⟨w.heap.size, 0, none⟩ = some (.int .i64 T) := by simp [World.cell?, hEr]
    have ef0 : wr.frozen? ⟨w.heap.size, 0, none⟩ = false := by simp [World.frozen?, hEr]
    have e1 : wr.cell? ⟨w.heap.size, 1, none⟩ = some (.int .i64 C) := by simp [World.cell?, hEr]
    have ef1 : wr.frozen? ⟨w.heap.size, 1, none⟩ = false := by simp [World.frozen?, hEr]
    have e2 : wr.cell? ⟨w.heap.size, 2, none⟩ = some (.slice (some a0) q c) := by simp [World.cell?, hEr]
    have ef2 : wr.frozen? ⟨w.heap.size, 2, none⟩ = false := by simp [World.frozen?, hEr]
    have g0 : wr.cell? ⟨w.heap.size + 1, 0, none⟩ = some (.int .i64 k) := by simp [World.cell?, hGr]
    have g1 : wr.cell? ⟨w.heap.size + 1, 1, none⟩ = some (.int .i64 (i : Int)) := by simp [World.cell?, hGr]
    have g2 : wr.cell? ⟨w.heap.size + 1, 2, none⟩ = some (.int .u64 a) := by simp [World.cell?, hGr]
    have g3 : wr.cell? ⟨w.heap.size + 1, 3, none⟩ = some (.int .u64 b) := by simp [World.cell?, hGr]
    have g4 : wr.cell? ⟨w.heap.size + 1, 4, none⟩ = some (.slice D m cd) := by simp [World.cell?, hGr]
    have g5 : wr.cell? ⟨w.heap.size + 1, 5, none⟩ = some (.slice B q2 cb) := by simp [World.cell?, hGr]
    have o0 : wr.cell? ⟨w.heap.size + 1 + 1, 0, none⟩ = some (.int .i64 0) := by simp [World.cell?, hOr]
    have of0 : wr.frozen? ⟨w.heap.size + 1 + 1, 0, none⟩ = false := by simp [World.frozen?, hOr]
    have o1 : wr.cell? ⟨w.heap.size + 1 + 1, 1, none⟩ = some (.int .i64 0) := by simp [World.cell?, hOr]
    have of1 : wr.frozen? ⟨w.heap.size + 1 + 1, 1, none⟩ = false := by simp [World.frozen?, hOr]
    have o2 : wr.cell? ⟨w.heap.size + 1 + 1, 2, none⟩ = some (.slice none 0 0) := by simp [World.cell?, hOr]
    have of2 : wr.frozen? ⟨w.heap.size + 1 + 1, 2, none⟩ = false := by simp [World.frozen?, hOr]
    have p0 : wr.cell? ⟨w.heap.size + 1 + 1 + 1, 0, none⟩ = some (.int .u64 0) := by simp [World.cell?, hPr]
    have pf0 : wr.frozen? ⟨w.heap.size + 1 + 1 + 1, 0, none⟩ = false := by simp [World.frozen?, hPr]
    have p1 : wr.cell? ⟨w.heap.size + 1 + 1 + 1, 1, none⟩ = some (.slice none 0 0) := by simp [World.cell?, hPr]
    have pf1 : wr.frozen? ⟨w.heap.size + 1 + 1 + 1, 1, none⟩ = false := by simp [World.frozen?, hPr]
    have p2 : wr.cell? ⟨w.heap.size + 1 + 1 + 1, 2, none⟩ = some (.bool false) := by simp [World.cell?, hPr]
    have pf2 : wr.frozen? ⟨w.heap.size + 1 + 1 + 1, 2, none⟩ = false := by simp [World.frozen?, hPr]
    clear hEr hGr hTr hlr
    have hF : Ext w ((((((wr.setCell ⟨w.heap.size + 1 + 1, 0, none⟩ (.int .i64 T)).setCell ⟨w.heap.size + 1 + 1, 1, none⟩ (.int .i64 C)).setCell ⟨w.heap.size + 1 + 1, 2, none⟩ (.slice (some a0) q c)).setCell ⟨w.heap.size + 1 + 1 + 1, 0, none⟩ (.int .u64 0)).setCell ⟨w.heap.size + 1 + 1 + 1, 1, none⟩ (.slice none 0 0)).setCell ⟨w.heap.size + 1 + 1 + 1, 2, none⟩ (.bool false)) := setAll_ext (g := w.heap.size + 1 + 1 + 1) (vs := [.int .u64 0, .slice none 0 0, .bool false]) (i := 0) (setAll_ext (g := w.heap.size + 1 + 1) (vs := [.int .i64 T, .int .i64 C, .slice (some a0) q c]) (i := 0) hWr (by omega)) (by omega)
    have hfO : ((((((wr.setCell ⟨w.heap.size + 1 + 1, 0, none⟩ (.int .i64 T)).setCell ⟨w.heap.size + 1 + 1, 1, none⟩ (.int .i64 C)).setCell ⟨w.heap.size + 1 + 1, 2, none⟩ (.slice (some a0) q c)).setCell ⟨w.heap.size + 1 + 1 + 1, 0, none⟩ (.int .u64 0)).setCell ⟨w.heap.size + 1 + 1 + 1, 1, none⟩ (.slice none 0 0)).setCell ⟨w.heap.size + 1 + 1 + 1, 2, none⟩ (.bool false)).heap[w.heap.size + 1 + 1]? = some (.cells #[.int .i64 T, .int .i64 C, .slice (some a0) q c] 25 (0, 0)) := (setAll_other (g := w.heap.size + 1 + 1 + 1) (by omega) [.int .u64 0, .slice none 0 0, .bool false] 0 (setAll (w.heap.size + 1 + 1) 0 [.int .i64 T, .int .i64 C, .slice (some a0) q c] wr)).trans (setAll_all (vs := [.int .i64 T, .int .i64 C, .slice (some a0) q c]) hOr rfl)
    have hfP : ((((((wr.setCell ⟨w.heap.size + 1 + 1, 0, none⟩ (.int .i64 T)).setCell ⟨w.heap.size + 1 + 1, 1, none⟩ (.int .i64 C)).setCell ⟨w.heap.size + 1 + 1, 2, none⟩ (.slice (some a0) q c)).setCell ⟨w.heap.size + 1 + 1 + 1, 0, none⟩ (.int .u64 0)).setCell ⟨w.heap.size + 1 + 1 + 1, 1, none⟩ (.slice none 0 0)).setCell ⟨w.heap.size + 1 + 1 + 1, 2, none⟩ (.bool false)).heap[w.heap.size + 1 + 1 + 1]? = some (.cells #[.int .u64 0, .slice none 0 0, .bool false] 51 (0, 0)) := setAll_all (vs := [.int .u64 0, .slice none 0 0, .bool false]) ((setAll_other (g := w.heap.size + 1 + 1) (by omega) [.int .i64 T, .int .i64 C, .slice (some a0) q c] 0 wr).trans hPr) rfl
    clear hOr hPr
    go_wp2
    generalize ((((((wr.setCell ⟨w.heap.size + 1 + 1, 0, none⟩ (.int .i64 T)).setCell ⟨w.heap.size + 1 + 1, 1, none⟩ (.int .i64 C)).setCell ⟨w.heap.size + 1 + 1, 2, none⟩ (.slice (some a0) q c)).setCell ⟨w.heap.size + 1 + 1 + 1, 0, none⟩ (.int .u64 0)).setCell ⟨w.heap.size + 1 + 1 + 1, 1, none⟩ (.slice none 0 0)).setCell ⟨w.heap.size + 1 + 1 + 1, 2, none⟩ (.bool false)) = wf at *
    clear o0 o1 o2 p0 p1 p2
    have o0 : wf.cell? ⟨w.heap.size + 1 + 1, 0, none⟩ = some (.int .i64 T) := by simp [World.cell?, hfO]
    have o1 : wf.cell? ⟨w.heap.size + 1 + 1, 1, none⟩ = some (.int .i64 C) := by simp [World.cell?, hfO]
    have o2 : wf.cell? ⟨w.heap.size + 1 + 1, 2, none⟩ = some (.slice (some a0) q c) := by simp [World.cell?, hfO]
    have p0 : wf.cell? ⟨w.heap.size + 1 + 1 + 1, 0, none⟩ = some (.int .u64 0) := by simp [World.cell?, hfP]
    have p1 : wf.cell? ⟨w.heap.size + 1 + 1 + 1, 1, none⟩ = some (.slice none 0 0) := by simp [World.cell?, hfP]
    have p2 : wf.cell? ⟨w.heap.size + 1 + 1 + 1, 2, none⟩ = some (.bool false) := by simp [World.cell?, hfP]
    refine bodyPost_ret (v := .tuple #[.agg #[.int .i64 T, .int .i64 C, .slice (some a0) q c], .agg #[.int .u64 0, .slice none 0 0, .bool false]]) (by simp [results, Try.results81, go_sem, o0, o1, o2, p0, p1, p2]) rfl ?_
    try rw [hwk]
    try rw [hwr]
    exact ⟨some a0, c, rfl, hA.ext hF, hF⟩
end Go.Proofs.Ytennnhfaghdeoaa
