import Derived.Test.YtjokaginolpbeaaEpochNextPartF
import Derived.Test.YtjokaginolpbeaaEpochNextPartE
import Derived.Test.YtjokaginolpbeaaEpochNextPartA
import Derived.Test.YtjokaginolpbeaaEpochNextPartB
import Derived.Lib.Hide
import Derived.LoopTactic
namespace Go.Proofs.Ytjokaginolpbeaa
open Go.RowKit

/-! The example of chapter 13, in plain. -/
def exP (me k u : Int) : List Int → NextE := nextT (epochT ((2 : Nat) : Int) me k u 100)
def exV : WldK × OutN × Bool := aloneN (exP 0 6 0) 0 (99 + 1) (newW 2 1) []
def exU : WldK × OutN × Bool := aloneN (exP 0 5 1) 0 (99 + 1) exV.1 []
def exX : WldK × OutN × Bool := aloneN (exP 1 6 0) 1 (99 + 1) exU.1 []
def exD : WldK × OutN × Bool := aloneN (exP 0 6 0) 0 (99 + 1) exX.1 []
def exY : WldK × OutN × Bool := aloneN (exP 1 3 0) 1 (9 + 1) (newW 2 1) []
theorem exV_eq : exV.2 = (⟨0, false, 1, 0⟩, true) := by kernel_rfl
theorem exU_eq : exU.2 = (⟨0, false, 0, 0⟩, true) := by kernel_rfl
theorem exX_eq : exX.2 = (⟨0, false, 1, 0⟩, true) := by kernel_rfl
theorem exD_eq : exD.2 = (⟨0, false, 0, 0⟩, true) := by kernel_rfl
theorem exY_eq : exY.2 = (⟨0, false, 0, 0⟩, true) := by kernel_rfl
theorem exY_len : exY.1.ws.length = 18 := by kernel_rfl
theorem exY_at : exY.1.at 9 = 1 := by kernel_rfl
theorem ex0 : WOk (newW 2 1) ∧ (newW 2 1).T = ((2 : Nat) : Int) := ⟨new_wok (by omega) (by omega) (by omega), rfl⟩
theorem ex_ok {X : WldK} (h : WOk X ∧ X.T = ((2 : Nat) : Int)) (me k u : Int) (hu : k = 5 → U64 u) (n : Nat) : WOk (aloneN (exP me k u) me n X []).1 ∧ (aloneN (exP me k u) me n X []).1.T = ((2 : Nat) : Int) := by
  obtain ⟨h1, h2, -⟩ := aloneN_ok (P := exP me k u) (me := me) (fun ns x h hx => epochN_ok _ _ _ _ _ hu ns x h hx) n X [] h.1 (fun m hm => by cases hm)
  exact ⟨h1, h2.trans h.2⟩
theorem exV_ok : WOk exV.1 ∧ exV.1.T = ((2 : Nat) : Int) := ex_ok ex0 0 6 0 (by omega) _
theorem exU_ok : WOk exU.1 ∧ exU.1.T = ((2 : Nat) : Int) := ex_ok exV_ok 0 5 1 (fun _ => by unfold U64; omega) _
theorem exX_ok : WOk exX.1 ∧ exX.1.T = ((2 : Nat) : Int) := ex_ok exU_ok 1 6 0 (by omega) _
theorem exc_V (wv : Value) (w : World) (hV : WldV w wv (newW 2 1)) : Calls Try.prog 22 #[wv, .int .i64 0, .agg #[.int .i64 6, .int .i64 0, .int .i64 0, .int .u64 0], .int .i64 99] w fun e w' => ∃ v', e = .returned (.tuple #[v', .agg #[.int .i64 0, .bool false, .int .i64 1, .int .u64 0, .slice none 0 0], .bool true]) ∧ WldV w' v' exV.1 ∧ Ext w w' := by
  have h := eal_any 100 (newW 2 1) 2 ex0.2 (by omega) ex0.1 wv 0 6 0 0 0 99 (by omega) (by omega) (by omega) 99 rfl (by omega) (by omega) w hV
  rw [show aloneN (nextT (epochT ((2 : Nat) : Int) 0 6 0 100)) 0 (99 + 1) (newW 2 1) [] = exV from rfl, exV_eq] at h
  exact h
theorem exc_U (wv : Value) (w : World) (hV : WldV w wv (exV.1)) : Calls Try.prog 22 #[wv, .int .i64 0, .agg #[.int .i64 5, .int .i64 1, .int .i64 0, .int .u64 0], .int .i64 99] w fun e w' => ∃ v', e = .returned (.tuple #[v', .agg #[.int .i64 0, .bool false, .int .i64 0, .int .u64 0, .slice none 0 0], .bool true]) ∧ WldV w' v' exU.1 ∧ Ext w w' := by
  have h := eal_any 100 (exV.1) 2 exV_ok.2 (by omega) exV_ok.1 wv 0 5 1 0 0 99 (by omega) (by omega) (by omega) 99 rfl (by omega) (by omega) w hV
  rw [show aloneN (nextT (epochT ((2 : Nat) : Int) 0 5 1 100)) 0 (99 + 1) (exV.1) [] = exU from rfl, exU_eq] at h
  exact h
theorem exc_X (wv : Value) (w : World) (hV : WldV w wv (exU.1)) : Calls Try.prog 22 #[wv, .int .i64 1, .agg #[.int .i64 6, .int .i64 0, .int .i64 0, .int .u64 0], .int .i64 99] w fun e w' => ∃ v', e = .returned (.tuple #[v', .agg #[.int .i64 0, .bool false, .int .i64 1, .int .u64 0, .slice none 0 0], .bool true]) ∧ WldV w' v' exX.1 ∧ Ext w w' := by
  have h := eal_any 100 (exU.1) 2 exU_ok.2 (by omega) exU_ok.1 wv 1 6 0 0 0 99 (by omega) (by omega) (by omega) 99 rfl (by omega) (by omega) w hV
  rw [show aloneN (nextT (epochT ((2 : Nat) : Int) 1 6 0 100)) 1 (99 + 1) (exU.1) [] = exX from rfl, exX_eq] at h
  exact h
theorem exc_D (wv : Value) (w : World) (hV : WldV w wv (exX.1)) : Calls Try.prog 22 #[wv, .int .i64 0, .agg #[.int .i64 6, .int .i64 0, .int .i64 0, .int .u64 0], .int .i64 99] w fun e w' => ∃ v', e = .returned (.tuple #[v', .agg #[.int .i64 0, .bool false, .int .i64 0, .int .u64 0, .slice none 0 0], .bool true]) ∧ WldV w' v' exD.1 ∧ Ext w w' := by
  have h := eal_any 100 (exX.1) 2 exX_ok.2 (by omega) exX_ok.1 wv 0 6 0 0 0 99 (by omega) (by omega) (by omega) 99 rfl (by omega) (by omega) w hV
  rw [show aloneN (nextT (epochT ((2 : Nat) : Int) 0 6 0 100)) 0 (99 + 1) (exX.1) [] = exD from rfl, exD_eq] at h
  exact h
theorem exc_Y (wv : Value) (w : World) (hV : WldV w wv (newW 2 1)) : Calls Try.prog 22 #[wv, .int .i64 1, .agg #[.int .i64 3, .int .i64 0, .int .i64 0, .int .u64 0], .int .i64 9] w fun e w' => ∃ v', e = .returned (.tuple #[v', .agg #[.int .i64 0, .bool false, .int .i64 0, .int .u64 0, .slice none 0 0], .bool true]) ∧ WldV w' v' exY.1 ∧ Ext w w' := by
  have h := eal_any 100 (newW 2 1) 2 ex0.2 (by omega) ex0.1 wv 1 3 0 0 0 9 (by omega) (by omega) (by omega) 9 rfl (by omega) (by omega) w hV
  rw [show aloneN (nextT (epochT ((2 : Nat) : Int) 1 3 0 100)) 1 (9 + 1) (newW 2 1) [] = exY from rfl, exY_eq] at h
  exact h
end Go.Proofs.Ytjokaginolpbeaa

namespace Go.Proofs.Ytjokaginolpbeaa
open Go.RowKit

/-! wealdref11: a log that is gone through. -/
def Res.zero : Res := ⟨0, none, 0, 0, false⟩
/-- how far a log is gone through, whether it stopped, and what is asked -/
structure Cu where
  i : Nat
  stop : Bool
  x : Acc
def Cu.told (rs : List Res) (s : Cu) : Res := if s.stop then Res.zero else (rs[s.i]?).getD Res.zero
def Cu.next (rs : List Res) (y : Acc) (s : Cu) : Cu := if s.stop then s else if s.i < rs.length then ⟨s.i + 1, false, s.x⟩ else ⟨s.i, true, y⟩
def curCells (A : Option Addr) (n c : Nat) (s : Cu) : List Value := [.slice A n c, .int .i64 s.i, .bool s.stop, .int .i64 s.x.kind, .int .i64 s.x.cell, .int .u64 s.x.a, .int .u64 s.x.b, .slice s.x.D s.x.dk s.x.dc, .slice s.x.W s.x.wk s.x.wc]
def CurAt (w : World) (g : Nat) (A : Option Addr) (n c : Nat) (s : Cu) : Prop := w.heap[g]? = some (.cells (curCells A n c s).toArray 142 (0, 0))
set_option maxRecDepth 100000 in
set_option maxHeartbeats 4000000 in
theorem rdo_any (y : Acc) (g : Nat) (A : Option Addr) (n c : Nat) (s : Cu) (rs : List Res) (w : World) (hlog : LogV w A n c rs) (hsep : ∀ a, A = some a → 0 < n → a.block ≠ g) (hcur : CurAt w g A n c s) :
    Calls Try.prog 155 #[.pointer (some ⟨g, 0, none⟩), .agg y.cells] w fun e w' => e = .returned (.agg #[.int .u64 (s.told rs).n, .slice (s.told rs).A (s.told rs).k (s.told rs).c, .bool (s.told rs).fail]) ∧ CurAt w' g A n c (s.next rs y) ∧ ExtB g w w' := by
  obtain ⟨y0, y1, y2, y3, y4, y5, y6, y7, y8, y9⟩ := y
  obtain ⟨i, stop, ⟨x0, x1, x2, x3, x4, x5, x6, x7, x8, x9⟩⟩ := s
  have hb0 : ∀ W : World, (Instr.build 59 #[]).run Try.prog W = .ok (.agg #[.int .u64 0, .slice none 0 0, .bool false]) W := fun _ => by kernel_rfl
  have hlen := hlog.len
  have hn := hlog.small
  have hcg : g < w.heap.size := (Array.getElem?_eq_some_iff.1 hcur).1
  simp only [Acc.cells]
  have hW : Ext w ((w.alloc (.cells #[.int .i64 y0, .int .i64 y1, .int .u64 y2, .int .u64 y3, .slice y4 y5 y6, .slice y7 y8 y9] 33)).alloc (.cells #[.int .u64 0, .slice none 0 0, .bool false] 59)) := ((Below.refl _ w).alloc (Nat.le_refl _) _).alloc (by simp) _
  have hy : ((w.alloc (.cells #[.int .i64 y0, .int .i64 y1, .int .u64 y2, .int .u64 y3, .slice y4 y5 y6, .slice y7 y8 y9] 33)).alloc (.cells #[.int .u64 0, .slice none 0 0, .bool false] 59)).heap[w.heap.size]? = some (.cells #[.int .i64 y0, .int .i64 y1, .int .u64 y2, .int .u64 y3, .slice y4 y5 y6, .slice y7 y8 y9] 33 (0, 0)) := by
    rw [Below.heap_alloc _ _ _ (by simp)]; exact heap_alloc_new w _
  have hr : ((w.alloc (.cells #[.int .i64 y0, .int .i64 y1, .int .u64 y2, .int .u64 y3, .slice y4 y5 y6, .slice y7 y8 y9] 33)).alloc (.cells #[.int .u64 0, .slice none 0 0, .bool false] 59)).heap[w.heap.size + 1]? = some (.cells #[.int .u64 0, .slice none 0 0, .bool false] 59 (0, 0)) := by
    simpa using heap_alloc_new (w.alloc (.cells #[.int .i64 y0, .int .i64 y1, .int .u64 y2, .int .u64 y3, .slice y4 y5 y6, .slice y7 y8 y9] 33)) (.cells #[.int .u64 0, .slice none 0 0, .bool false] 59)
  go_enter Try.func155, Try.ntmps155
  go_upto_region 1 with (fail)
  generalize (w.alloc (.cells #[.int .i64 y0, .int .i64 y1, .int .u64 y2, .int .u64 y3, .slice y4 y5 y6, .slice y7 y8 y9] 33)).alloc (.cells #[.int .u64 0, .slice none 0 0, .bool false] 59) = W at *
  have hcw : W.heap[g]? = some (.cells #[.slice A n c, .int .i64 i, .bool stop, .int .i64 x0, .int .i64 x1, .int .u64 x2, .int .u64 x3, .slice x4 x5 x6, .slice x7 x8 x9] 142 (0, 0)) := heap_ext hcur hW
  have c0 : W.cell? ⟨g, 0, none⟩ = some (.slice A n c) := by simp [World.cell?, hcw]
  have cf0 : W.frozen? ⟨g, 0, none⟩ = false := by simp [World.frozen?, hcw]
  have c1 : W.cell? ⟨g, 1, none⟩ = some (.int .i64 i) := by simp [World.cell?, hcw]
  have cf1 : W.frozen? ⟨g, 1, none⟩ = false := by simp [World.frozen?, hcw]
  have c2 : W.cell? ⟨g, 2, none⟩ = some (.bool stop) := by simp [World.cell?, hcw]
  have cf2 : W.frozen? ⟨g, 2, none⟩ = false := by simp [World.frozen?, hcw]
  have c3 : W.cell? ⟨g, 3, none⟩ = some (.int .i64 x0) := by simp [World.cell?, hcw]
  have cf3 : W.frozen? ⟨g, 3, none⟩ = false := by simp [World.frozen?, hcw]
  have c4 : W.cell? ⟨g, 4, none⟩ = some (.int .i64 x1) := by simp [World.cell?, hcw]
  have cf4 : W.frozen? ⟨g, 4, none⟩ = false := by simp [World.frozen?, hcw]
  have c5 : W.cell? ⟨g, 5, none⟩ = some (.int .u64 x2) := by simp [World.cell?, hcw]
  have cf5 : W.frozen? ⟨g, 5, none⟩ = false := by simp [World.frozen?, hcw]
  have c6 : W.cell? ⟨g, 6, none⟩ = some (.int .u64 x3) := by simp [World.cell?, hcw]
  have cf6 : W.frozen? ⟨g, 6, none⟩ = false := by simp [World.frozen?, hcw]
  have c7 : W.cell? ⟨g, 7, none⟩ = some (.slice x4 x5 x6) := by simp [World.cell?, hcw]
  have cf7 : W.frozen? ⟨g, 7, none⟩ = false := by simp [World.frozen?, hcw]
  have c8 : W.cell? ⟨g, 8, none⟩ = some (.slice x7 x8 x9) := by simp [World.cell?, hcw]
  have cf8 : W.frozen? ⟨g, 8, none⟩ = false := by simp [World.frozen?, hcw]
  have r0 : W.cell? ⟨w.heap.size + 1, 0, none⟩ = some (.int .u64 0) := by simp [World.cell?, hr]
  have rf0 : W.frozen? ⟨w.heap.size + 1, 0, none⟩ = false := by simp [World.frozen?, hr]
  have r1 : W.cell? ⟨w.heap.size + 1, 1, none⟩ = some (.slice none 0 0) := by simp [World.cell?, hr]
  have rf1 : W.frozen? ⟨w.heap.size + 1, 1, none⟩ = false := by simp [World.frozen?, hr]
  have r2 : W.cell? ⟨w.heap.size + 1, 2, none⟩ = some (.bool false) := by simp [World.cell?, hr]
  have rf2 : W.frozen? ⟨w.heap.size + 1, 2, none⟩ = false := by simp [World.frozen?, hr]
  have z0 : W.cell? ⟨w.heap.size, 0, none⟩ = some (.int .i64 y0) := by simp [World.cell?, hy]
  have z1 : W.cell? ⟨w.heap.size, 1, none⟩ = some (.int .i64 y1) := by simp [World.cell?, hy]
  have z2 : W.cell? ⟨w.heap.size, 2, none⟩ = some (.int .u64 y2) := by simp [World.cell?, hy]
  have z3 : W.cell? ⟨w.heap.size, 3, none⟩ = some (.int .u64 y3) := by simp [World.cell?, hy]
  have z4 : W.cell? ⟨w.heap.size, 4, none⟩ = some (.slice y4 y5 y6) := by simp [World.cell?, hy]
  have z5 : W.cell? ⟨w.heap.size, 5, none⟩ = some (.slice y7 y8 y9) := by simp [World.cell?, hy]
  have HC := Lib.hid hcw
  have HR := Lib.hid hr
  have HY := Lib.hid hy
  clear hcw hr hy hcur
  have hX : ∀ wx, Ext W wx → wx.cell? ⟨g, 0, none⟩ = some (.slice A n c) ∧ wx.cell? ⟨g, 1, none⟩ = some (.int .i64 i) ∧ wx.frozen? ⟨g, 1, none⟩ = false ∧ wx.heap[g]? = some (.cells #[.slice A n c, .int .i64 i, .bool stop, .int .i64 x0, .int .i64 x1, .int .u64 x2, .int .u64 x3, .slice x4 x5 x6, .slice x7 x8 x9] 142 (0, 0)) ∧ wx.heap[w.heap.size + 1]? = some (.cells #[.int .u64 0, .slice none 0 0, .bool false] 59 (0, 0)) ∧ wx.heap[w.heap.size]? = some (.cells #[.int .i64 y0, .int .i64 y1, .int .u64 y2, .int .u64 y3, .slice y4 y5 y6, .slice y7 y8 y9] 33 (0, 0)) := fun wx hx =>
    ⟨hx.cell c0, hx.cell c1, by have := heap_ext HC.out hx; simp [World.frozen?, this], heap_ext HC.out hx, heap_ext HR.out hx, heap_ext HY.out hx⟩
  cases stop with
  | true =>
    go_wp2
    refine bodyPost_ret (v := .agg #[.int .u64 0, .slice none 0 0, .bool false]) (by simp [results, Try.results155, go_sem, r0, r1, r2]) rfl ⟨rfl, ?_, ?_⟩
    · have h1 := (setAll_other (g := w.heap.size + 1) (k := g) (by omega) [.int .u64 0, .slice none 0 0, .bool false] 0 W).trans HC.out
      exact h1
    · exact ExtB.of (setAll_ext (g := w.heap.size + 1) (vs := [.int .u64 0, .slice none 0 0, .bool false]) (i := 0) hW (by omega))
  | false =>
    rcases Nat.lt_or_ge i rs.length with hi | hi
    · have hlt : (i : Int) < (n : Int) := by omega
      obtain ⟨a, rfl, hra⟩ := hlog.at_ i (rs[i]'hi) (List.getElem?_eq_getElem _)
      have hrs : rs[i]? = some (rs[i]'hi) := List.getElem?_eq_getElem _
      generalize rs[i]'hi = r at *
      obtain ⟨rn, rA, rk, rc, rf⟩ := r
      obtain ⟨q0, q1, q2⟩ := hra
      have hag := hsep a rfl (by omega)
      go_upto_region 3 with (fail)
      clear c0 c1 c2 c3 c4 c5 c6 c7 c8 cf0 cf1 cf2 cf3 cf4 cf5 cf6 cf7 cf8 r0 r1 r2 rf0 rf1 rf2 z0 z1 z2 z3 z4 z5
      refine' wp_region_sure_all ⟨((some 10, [], none) :: (some 11, [0], none) :: (some 12, [1], none) :: (some 13, [2], none) :: (some 14, [], none) :: (some 15, [4], none) :: (some 16, [5], none) :: (some 17, [6], none) :: (some 18, [7], none) :: (some 19, [3, 8], none) :: []), (0 :: 1 :: 3 :: 7 :: 0 :: 16 :: 48 :: 112 :: 240 :: 511 :: []), (true :: true :: true :: true :: true :: true :: true :: true :: true :: true :: []), [], 0⟩ 10 47 ((0, 10) :: (1, 11) :: (2, 12) :: (3, 13) :: (4, 14) :: (5, 15) :: (6, 16) :: (7, 17) :: (8, 18) :: (9, 19) :: []) ((0, 10) :: (1, 11) :: (2, 12) :: (3, 13) :: (4, 14) :: (5, 15) :: (6, 16) :: (7, 17) :: (8, 18) :: (9, 19) :: []) (.det _ :: .det _ :: .det _ :: .det _ :: .det _ :: .det _ :: .det _ :: .det _ :: .det _ :: .det _ :: []) (by kernel_rfl) (by kernel_rfl) (by kernel_rfl) rfl (by kernel_rfl) (by kernel_rfl) rfl (by kernel_rfl) ?hone ?hend
      case hone =>
        intro CS frS VS hCS ha hV
        have qs0 := slot_val (t := 0) ha rfl
        simp only [List.getElem_toArray, List.getElem_cons_succ, List.getElem_cons_zero] at qs0
        have HCS := Lib.hid hCS
        have HVS := Lib.hid hV
        clear ha hCS hV
        -- 0: slot 10 := Op.move t0
        refine sure_det (js := []) (ts := [0]) (gd := none) (place_at HVS.out (k := 0) rfl) (by rw [HCS.out]; kernel_rfl) ?_ ?_
        · intro wx hx ρ hρ hs hf
          have hρc := hρ.const
          have hρf := hρ.func
          obtain ⟨fx0, -⟩ := hf
          rw [qs0] at fx0
          clear hs
          clear HCS HVS qs0
          refine run_plain ?_
          refine op_move rfl fx0 ?_
          exact detK.mk
        -- 1: slot 11 := Op.nilCheck t10
        refine sure_det (js := [(0, 10)]) (ts := []) (gd := none) (place_at HVS.out (k := 1) rfl) (by rw [HCS.out]; kernel_rfl) ?_ ?_
        · intro wx hx ρ hρ hs hf
          have hρc := hρ.const
          have hρf := hρ.func
          obtain ⟨sn0, -⟩ := hs
          rw [place_at HVS.out (k := 0) rfl] at sn0
          replace sn0 : ρ (.tmp 10) = _ := sn0
          clear hf
          clear HCS HVS qs0
          refine run_plain ?_
          unfold runs
          go_simp
          exact detK.mk
        -- 2: slot 12 := Op.fieldAddr 142 t11 1
        refine sure_det (js := [(1, 11)]) (ts := []) (gd := none) (place_at HVS.out (k := 2) rfl) (by rw [HCS.out]; kernel_rfl) ?_ ?_
        · intro wx hx ρ hρ hs hf
          have hρc := hρ.const
          have hρf := hρ.func
          obtain ⟨sn1, -⟩ := hs
          rw [place_at HVS.out (k := 1) rfl] at sn1
          replace sn1 : ρ (.tmp 11) = _ := sn1
          clear hf
          clear HCS HVS qs0
          refine run_plain ?_
          unfold runs
          go_simp
          exact detK.mk
        -- 3: slot 13 := Op.load 3 t12
        refine sure_det (js := [(2, 12)]) (ts := []) (gd := none) (place_at HVS.out (k := 3) rfl) (by rw [HCS.out]; kernel_rfl) ?_ ?_
        · intro wx hx ρ hρ hs hf
          have hρc := hρ.const
          have hρf := hρ.func
          obtain ⟨sn2, -⟩ := hs
          rw [place_at HVS.out (k := 2) rfl] at sn2
          replace sn2 : ρ (.tmp 12) = _ := sn2
          clear hf
          clear HCS HVS qs0
          refine run_plain ?_
          obtain ⟨c0, c1, -⟩ := hX wx hx.drawn
          unfold runs
          go_simp
          exact detK.mk
        -- 4: slot 14 := Op.move t0
        refine sure_det (js := []) (ts := [0]) (gd := none) (place_at HVS.out (k := 4) rfl) (by rw [HCS.out]; kernel_rfl) ?_ ?_
        · intro wx hx ρ hρ hs hf
          have hρc := hρ.const
          have hρf := hρ.func
          obtain ⟨fx0, -⟩ := hf
          rw [qs0] at fx0
          clear hs
          clear HCS HVS qs0
          refine run_plain ?_
          refine op_move rfl fx0 ?_
          exact detK.mk
        -- 5: slot 15 := Op.nilCheck t14
        refine sure_det (js := [(4, 14)]) (ts := []) (gd := none) (place_at HVS.out (k := 5) rfl) (by rw [HCS.out]; kernel_rfl) ?_ ?_
        · intro wx hx ρ hρ hs hf
          have hρc := hρ.const
          have hρf := hρ.func
          obtain ⟨sn4, -⟩ := hs
          rw [place_at HVS.out (k := 4) rfl] at sn4
          replace sn4 : ρ (.tmp 14) = _ := sn4
          clear hf
          clear HCS HVS qs0
          refine run_plain ?_
          unfold runs
          go_simp
          exact detK.mk
        -- 6: slot 16 := Op.fieldAddr 142 t15 0
        refine sure_det (js := [(5, 15)]) (ts := []) (gd := none) (place_at HVS.out (k := 6) rfl) (by rw [HCS.out]; kernel_rfl) ?_ ?_
        · intro wx hx ρ hρ hs hf
          have hρc := hρ.const
          have hρf := hρ.func
          obtain ⟨sn5, -⟩ := hs
          rw [place_at HVS.out (k := 5) rfl] at sn5
          replace sn5 : ρ (.tmp 15) = _ := sn5
          clear hf
          clear HCS HVS qs0
          refine run_plain ?_
          unfold runs
          go_simp
          exact detK.mk
        -- 7: slot 17 := Op.load 25 t16
        refine sure_det (js := [(6, 16)]) (ts := []) (gd := none) (place_at HVS.out (k := 7) rfl) (by rw [HCS.out]; kernel_rfl) ?_ ?_
        · intro wx hx ρ hρ hs hf
          have hρc := hρ.const
          have hρf := hρ.func
          obtain ⟨sn6, -⟩ := hs
          rw [place_at HVS.out (k := 6) rfl] at sn6
          replace sn6 : ρ (.tmp 16) = _ := sn6
          clear hf
          clear HCS HVS qs0
          refine run_plain ?_
          obtain ⟨c0, c1, -⟩ := hX wx hx.drawn
          unfold runs
          go_simp
          exact detK.mk
        -- 8: slot 18 := Op.call { len, args := #[t17], argTypes := #[25] }
        refine sure_det (js := [(7, 17)]) (ts := []) (gd := none) (place_at HVS.out (k := 8) rfl) (by rw [HCS.out]; kernel_rfl) ?_ ?_
        · intro wx hx ρ hρ hs hf
          have hρc := hρ.const
          have hρf := hρ.func
          obtain ⟨sn7, -⟩ := hs
          rw [place_at HVS.out (k := 7) rfl] at sn7
          replace sn7 : ρ (.tmp 17) = _ := sn7
          clear hf
          clear HCS HVS qs0
          refine run_plain ?_
          unfold runs
          go_simp
          exact detK.mk
        -- 9: slot 19 := Op.binOp BinOp.lss 3 t13 t18 3
        refine sure_det (js := [(3, 13), (8, 18)]) (ts := []) (gd := none) (place_at HVS.out (k := 9) rfl) (by rw [HCS.out]; kernel_rfl) ?_ ?_
        · intro wx hx ρ hρ hs hf
          have hρc := hρ.const
          have hρf := hρ.func
          obtain ⟨sn3, sn8, -⟩ := hs
          rw [place_at HVS.out (k := 3) rfl] at sn3
          replace sn3 : ρ (.tmp 13) = _ := sn3
          rw [place_at HVS.out (k := 8) rfl] at sn8
          replace sn8 : ρ (.tmp 18) = _ := sn8
          clear hf
          clear HCS HVS qs0
          refine run_plain ?_
          unfold runs
          go_simp
          exact detK.mk
        exact trivial
      case hend =>
        intro xs wx hx hg
        have gk0 : xs 0 = _ := goods_get hg (i := 0) (j := 0) (d := 10) rfl
        have gk1 : xs 1 = _ := goods_get hg (i := 1) (j := 1) (d := 11) rfl
        have gk2 : xs 2 = _ := goods_get hg (i := 2) (j := 2) (d := 12) rfl
        have gk3 : xs 3 = _ := goods_get hg (i := 3) (j := 3) (d := 13) rfl
        have gk4 : xs 4 = _ := goods_get hg (i := 4) (j := 4) (d := 14) rfl
        have gk5 : xs 5 = _ := goods_get hg (i := 5) (j := 5) (d := 15) rfl
        have gk6 : xs 6 = _ := goods_get hg (i := 6) (j := 6) (d := 16) rfl
        have gk7 : xs 7 = _ := goods_get hg (i := 7) (j := 7) (d := 17) rfl
        have gk8 : xs 8 = _ := goods_get hg (i := 8) (j := 8) (d := 18) rfl
        have gk9 : xs 9 = _ := goods_get hg (i := 9) (j := 9) (d := 19) rfl
        clear hg
        simp only [putAll, gk0, gk1, gk2, gk3, gk4, gk5, gk6, gk7, gk8, gk9]
        clear gk0 gk1 gk2 gk3 gk4 gk5 gk6 gk7 gk8 gk9
        clear xs
        simp only [Act.put, List.setIfInBounds_toArray, List.set_cons_zero, List.set_cons_succ]
        obtain ⟨c0, c1, cf1, hg1, hr1, hy1⟩ := hX wx hx.drawn
        go_upto_region 5 with (fail)
        have hB : ExtB g w (wx.setCell ⟨g, 1, none⟩ (.int .i64 ((i : Int) + 1))) := (ExtB.of (hW.trans hx.drawn)).set _ _
        have hg2 : (wx.setCell ⟨g, 1, none⟩ (.int .i64 ((i : Int) + 1))).heap[g]? = some (.cells #[.slice (some a) n c, .int .i64 ((i : Int) + 1), .bool false, .int .i64 x0, .int .i64 x1, .int .u64 x2, .int .u64 x3, .slice x4 x5 x6, .slice x7 x8 x9] 142 (0, 0)) := by
          simp [World.setCell, Array.getElem?_modify, hg1]
        have hr2 : (wx.setCell ⟨g, 1, none⟩ (.int .i64 ((i : Int) + 1))).heap[w.heap.size + 1]? = _ := (Below.heap_setCell _ _ _ _ (by simp; omega)).trans hr1
        have p0 := hB.cell q0 (by rw [add_block]; exact hag)
        have p1 := hB.cell q1 (by rw [add_block, add_block]; exact hag)
        have p2 := hB.cell q2 (by rw [add_block, add_block]; exact hag)
        rw [show (a.add (i * 3)).add 1 = ⟨(a.add (i * 3)).block, (a.add (i * 3)).off + 1, none⟩ from rfl] at p1
        rw [show (a.add (i * 3)).add 2 = ⟨(a.add (i * 3)).block, (a.add (i * 3)).off + 2, none⟩ from rfl] at p2
        clear c0 c1 cf1 hg1 hr1 hy1 hX hx q0 q1 q2 hW
        generalize wx.setCell ⟨g, 1, none⟩ (.int .i64 ((i : Int) + 1)) = W2 at *
        have hw1 : IntKind.i64.wrap (i : Int) = (i : Int) := by rw [IntKind.wrap_i64]; omega
        have hX2 : ∀ wy, Ext W2.drew wy → wy.cell? ⟨g, 0, none⟩ = some (.slice (some a) n c) ∧ wy.cell? ⟨g, 1, none⟩ = some (.int .i64 ((i : Int) + 1)) ∧ wy.cell? (a.add (i * 3)) = some (.int .u64 rn) ∧ wy.cell? ⟨(a.add (i * 3)).block, (a.add (i * 3)).off + 1, none⟩ = some (.slice rA rk rc) ∧ wy.cell? ⟨(a.add (i * 3)).block, (a.add (i * 3)).off + 2, none⟩ = some (.bool rf) := fun wy hy =>
          ⟨hy.drawn.cell (by simp [World.cell?, hg2]), hy.drawn.cell (by simp [World.cell?, hg2]), hy.drawn.cell p0, hy.drawn.cell p1, hy.drawn.cell p2⟩
        refine' wp_region_sure ⟨((some 28, [], none) :: (some 29, [0], none) :: (some 30, [1], none) :: (some 31, [2], none) :: (some 32, [], none) :: (some 33, [4], none) :: (some 34, [5], none) :: (some 35, [6], none) :: (some 36, [7], none) :: (some 37, [3, 8], none) :: (some 38, [9], none) :: (none, [10, 0, 1, 2, 3, 4, 5, 6, 7, 8, 9, 10], none) :: []), (0 :: 1 :: 3 :: 7 :: 0 :: 16 :: 48 :: 112 :: 240 :: 511 :: 1023 :: 2047 :: []), (true :: true :: true :: true :: true :: true :: true :: true :: true :: true :: true :: []), [], 0⟩ 11 47 ((0, 28) :: (1, 29) :: (2, 30) :: (3, 31) :: (4, 32) :: (5, 33) :: (6, 34) :: (7, 35) :: (8, 36) :: (9, 37) :: (10, 38) :: []) ((0, 28) :: (1, 29) :: (2, 30) :: (3, 31) :: (4, 32) :: (5, 33) :: (6, 34) :: (7, 35) :: (8, 36) :: (9, 37) :: (10, 38) :: []) (.det _ :: .det _ :: .det _ :: .det _ :: .det _ :: .det _ :: .det _ :: .det _ :: .det _ :: .det _ :: .det _ :: []) (by kernel_rfl) (by kernel_rfl) (by kernel_rfl) rfl (by kernel_rfl) (by kernel_rfl) rfl ?hone ?hend
        case hone =>
          intro CS frS VS hCS ha hV
          have qs0 := slot_val (t := 0) ha rfl
          simp only [List.getElem_toArray, List.getElem_cons_succ, List.getElem_cons_zero] at qs0
          have HCS := Lib.hid hCS
          have HVS := Lib.hid hV
          clear ha hCS hV
          -- 0: slot 28 := Op.move t0
          refine sure_det (js := []) (ts := [0]) (gd := none) (place_at HVS.out (k := 0) rfl) (by rw [HCS.out]; kernel_rfl) ?_ ?_
          · intro wx hx ρ hρ hs hf
            have hρc := hρ.const
            have hρf := hρ.func
            obtain ⟨fx0, -⟩ := hf
            rw [qs0] at fx0
            clear hs
            clear HCS HVS qs0
            refine run_plain ?_
            refine op_move rfl fx0 ?_
            exact detK.mk
          -- 1: slot 29 := Op.nilCheck t28
          refine sure_det (js := [(0, 28)]) (ts := []) (gd := none) (place_at HVS.out (k := 1) rfl) (by rw [HCS.out]; kernel_rfl) ?_ ?_
          · intro wx hx ρ hρ hs hf
            have hρc := hρ.const
            have hρf := hρ.func
            obtain ⟨sn0, -⟩ := hs
            rw [place_at HVS.out (k := 0) rfl] at sn0
            replace sn0 : ρ (.tmp 28) = _ := sn0
            clear hf
            clear HCS HVS qs0
            refine run_plain ?_
            unfold runs
            go_simp
            exact detK.mk
          -- 2: slot 30 := Op.fieldAddr 142 t29 0
          refine sure_det (js := [(1, 29)]) (ts := []) (gd := none) (place_at HVS.out (k := 2) rfl) (by rw [HCS.out]; kernel_rfl) ?_ ?_
          · intro wx hx ρ hρ hs hf
            have hρc := hρ.const
            have hρf := hρ.func
            obtain ⟨sn1, -⟩ := hs
            rw [place_at HVS.out (k := 1) rfl] at sn1
            replace sn1 : ρ (.tmp 29) = _ := sn1
            clear hf
            clear HCS HVS qs0
            refine run_plain ?_
            unfold runs
            go_simp
            exact detK.mk
          -- 3: slot 31 := Op.load 25 t30
          refine sure_det (js := [(2, 30)]) (ts := []) (gd := none) (place_at HVS.out (k := 3) rfl) (by rw [HCS.out]; kernel_rfl) ?_ ?_
          · intro wx hx ρ hρ hs hf
            have hρc := hρ.const
            have hρf := hρ.func
            obtain ⟨sn2, -⟩ := hs
            rw [place_at HVS.out (k := 2) rfl] at sn2
            replace sn2 : ρ (.tmp 30) = _ := sn2
            clear hf
            clear HCS HVS qs0
            refine run_plain ?_
            obtain ⟨c0, c1, p0, p1, p2⟩ := hX2 wx hx
            unfold runs
            go_simp
            exact detK.mk
          -- 4: slot 32 := Op.move t0
          refine sure_det (js := []) (ts := [0]) (gd := none) (place_at HVS.out (k := 4) rfl) (by rw [HCS.out]; kernel_rfl) ?_ ?_
          · intro wx hx ρ hρ hs hf
            have hρc := hρ.const
            have hρf := hρ.func
            obtain ⟨fx0, -⟩ := hf
            rw [qs0] at fx0
            clear hs
            clear HCS HVS qs0
            refine run_plain ?_
            refine op_move rfl fx0 ?_
            exact detK.mk
          -- 5: slot 33 := Op.nilCheck t32
          refine sure_det (js := [(4, 32)]) (ts := []) (gd := none) (place_at HVS.out (k := 5) rfl) (by rw [HCS.out]; kernel_rfl) ?_ ?_
          · intro wx hx ρ hρ hs hf
            have hρc := hρ.const
            have hρf := hρ.func
            obtain ⟨sn4, -⟩ := hs
            rw [place_at HVS.out (k := 4) rfl] at sn4
            replace sn4 : ρ (.tmp 32) = _ := sn4
            clear hf
            clear HCS HVS qs0
            refine run_plain ?_
            unfold runs
            go_simp
            exact detK.mk
          -- 6: slot 34 := Op.fieldAddr 142 t33 1
          refine sure_det (js := [(5, 33)]) (ts := []) (gd := none) (place_at HVS.out (k := 6) rfl) (by rw [HCS.out]; kernel_rfl) ?_ ?_
          · intro wx hx ρ hρ hs hf
            have hρc := hρ.const
            have hρf := hρ.func
            obtain ⟨sn5, -⟩ := hs
            rw [place_at HVS.out (k := 5) rfl] at sn5
            replace sn5 : ρ (.tmp 33) = _ := sn5
            clear hf
            clear HCS HVS qs0
            refine run_plain ?_
            unfold runs
            go_simp
            exact detK.mk
          -- 7: slot 35 := Op.load 3 t34
          refine sure_det (js := [(6, 34)]) (ts := []) (gd := none) (place_at HVS.out (k := 7) rfl) (by rw [HCS.out]; kernel_rfl) ?_ ?_
          · intro wx hx ρ hρ hs hf
            have hρc := hρ.const
            have hρf := hρ.func
            obtain ⟨sn6, -⟩ := hs
            rw [place_at HVS.out (k := 6) rfl] at sn6
            replace sn6 : ρ (.tmp 34) = _ := sn6
            clear hf
            clear HCS HVS qs0
            refine run_plain ?_
            obtain ⟨c0, c1, p0, p1, p2⟩ := hX2 wx hx
            unfold runs
            go_simp
            exact detK.mk
          -- 8: slot 36 := Op.binOp BinOp.sub 3 t35 ((i64 1)) 3
          refine sure_det (js := [(7, 35)]) (ts := []) (gd := none) (place_at HVS.out (k := 8) rfl) (by rw [HCS.out]; kernel_rfl) ?_ ?_
          · intro wx hx ρ hρ hs hf
            have hρc := hρ.const
            have hρf := hρ.func
            obtain ⟨sn7, -⟩ := hs
            rw [place_at HVS.out (k := 7) rfl] at sn7
            replace sn7 : ρ (.tmp 35) = _ := sn7
            clear hf
            clear HCS HVS qs0
            refine run_plain ?_
            unfold runs
            go_simp
            exact detK.mk
          -- 9: slot 37 := Op.indexAddr 25 t31 t36
          refine sure_det (js := [(3, 31), (8, 36)]) (ts := []) (gd := none) (place_at HVS.out (k := 9) rfl) (by rw [HCS.out]; kernel_rfl) ?_ ?_
          · intro wx hx ρ hρ hs hf
            have hρc := hρ.const
            have hρf := hρ.func
            obtain ⟨sn3, sn8, -⟩ := hs
            rw [place_at HVS.out (k := 3) rfl] at sn3
            replace sn3 : ρ (.tmp 31) = _ := sn3
            rw [place_at HVS.out (k := 8) rfl] at sn8
            replace sn8 : ρ (.tmp 36) = _ := sn8
            clear hf
            clear HCS HVS qs0
            refine run_plain ?_
            unfold runs
            go_simp
            exact detK.mk
          -- 10: slot 38 := Op.load 59 t37
          refine sure_det (js := [(9, 37)]) (ts := []) (gd := none) (place_at HVS.out (k := 10) rfl) (by rw [HCS.out]; kernel_rfl) ?_ ?_
          · intro wx hx ρ hρ hs hf
            have hρc := hρ.const
            have hρf := hρ.func
            obtain ⟨sn9, -⟩ := hs
            rw [place_at HVS.out (k := 9) rfl] at sn9
            replace sn9 : ρ (.tmp 37) = _ := sn9
            clear hf
            clear HCS HVS qs0
            refine run_plain ?_
            obtain ⟨c0, c1, p0, p1, p2⟩ := hX2 wx hx
            unfold runs
            go_simp
            exact detK.mk
          exact trivial
        case hend =>
          intro xs wx hx hg
          have gk0 : xs 0 = _ := goods_get hg (i := 0) (j := 0) (d := 28) rfl
          have gk1 : xs 1 = _ := goods_get hg (i := 1) (j := 1) (d := 29) rfl
          have gk2 : xs 2 = _ := goods_get hg (i := 2) (j := 2) (d := 30) rfl
          have gk3 : xs 3 = _ := goods_get hg (i := 3) (j := 3) (d := 31) rfl
          have gk4 : xs 4 = _ := goods_get hg (i := 4) (j := 4) (d := 32) rfl
          have gk5 : xs 5 = _ := goods_get hg (i := 5) (j := 5) (d := 33) rfl
          have gk6 : xs 6 = _ := goods_get hg (i := 6) (j := 6) (d := 34) rfl
          have gk7 : xs 7 = _ := goods_get hg (i := 7) (j := 7) (d := 35) rfl
          have gk8 : xs 8 = _ := goods_get hg (i := 8) (j := 8) (d := 36) rfl
          have gk9 : xs 9 = _ := goods_get hg (i := 9) (j := 9) (d := 37) rfl
          have gk10 : xs 10 = _ := goods_get hg (i := 10) (j := 10) (d := 38) rfl
          clear hg
          simp only [putAll, gk0, gk1, gk2, gk3, gk4, gk5, gk6, gk7, gk8, gk9, gk10]
          clear gk0 gk1 gk2 gk3 gk4 gk5 gk6 gk7 gk8 gk9 gk10
          clear xs
          simp only [Act.put, List.setIfInBounds_toArray, List.set_cons_zero, List.set_cons_succ, List.drop_succ_cons, List.drop_zero]
          have hr3 := heap_ext hr2 hx.drawn
          have r0 : wx.cell? ⟨w.heap.size + 1, 0, none⟩ = some (.int .u64 0) := by simp [World.cell?, hr3]
          have r1 : wx.cell? ⟨w.heap.size + 1, 1, none⟩ = some (.slice none 0 0) := by simp [World.cell?, hr3]
          have r2 : wx.cell? ⟨w.heap.size + 1, 2, none⟩ = some (.bool false) := by simp [World.cell?, hr3]
          have rf0 : wx.frozen? ⟨w.heap.size + 1, 0, none⟩ = false := by simp [World.frozen?, hr3]
          have rf1 : wx.frozen? ⟨w.heap.size + 1, 1, none⟩ = false := by simp [World.frozen?, hr3]
          have rf2 : wx.frozen? ⟨w.heap.size + 1, 2, none⟩ = false := by simp [World.frozen?, hr3]
          go_wp2
          have e1 : Cu.told rs ⟨i, false, ⟨x0, x1, x2, x3, x4, x5, x6, x7, x8, x9⟩⟩ = ⟨rn, rA, rk, rc, rf⟩ := by simp [Cu.told, hrs]
          have e2 : Cu.next rs ⟨y0, y1, y2, y3, y4, y5, y6, y7, y8, y9⟩ ⟨i, false, ⟨x0, x1, x2, x3, x4, x5, x6, x7, x8, x9⟩⟩ = ⟨i + 1, false, ⟨x0, x1, x2, x3, x4, x5, x6, x7, x8, x9⟩⟩ := by simp [Cu.next, hi]
          refine bodyPost_ret (v := .agg #[.int .u64 rn, .slice rA rk rc, .bool rf]) (by simp [results, Try.results155, go_sem, r0, r1, r2]) rfl ⟨by simp only [e1], ?_, ?_⟩
          · rw [e2]
            have h1 := (setAll_other (g := w.heap.size + 1) (k := g) (by omega) [.int .u64 rn, .slice rA rk rc, .bool rf] 0 wx).trans (heap_ext hg2 hx.drawn)
            exact h1
          · have h1 : ExtB g w wx := hB.trans (ExtB.of hx.drawn)
            exact ((h1.trans_set (by omega)).trans_set (by omega)).trans_set (by omega)
    · have hge : ¬ (i : Int) < (n : Int) := by omega
      go_upto_region 3 with (fail)
      clear c0 c1 c2 c3 c4 c5 c6 c7 c8 cf0 cf1 cf2 cf3 cf4 cf5 cf6 cf7 cf8 r0 r1 r2 rf0 rf1 rf2 z0 z1 z2 z3 z4 z5
      refine' wp_region_sure_all ⟨((some 10, [], none) :: (some 11, [0], none) :: (some 12, [1], none) :: (some 13, [2], none) :: (some 14, [], none) :: (some 15, [4], none) :: (some 16, [5], none) :: (some 17, [6], none) :: (some 18, [7], none) :: (some 19, [3, 8], none) :: []), (0 :: 1 :: 3 :: 7 :: 0 :: 16 :: 48 :: 112 :: 240 :: 511 :: []), (true :: true :: true :: true :: true :: true :: true :: true :: true :: true :: []), [], 0⟩ 10 47 ((0, 10) :: (1, 11) :: (2, 12) :: (3, 13) :: (4, 14) :: (5, 15) :: (6, 16) :: (7, 17) :: (8, 18) :: (9, 19) :: []) ((0, 10) :: (1, 11) :: (2, 12) :: (3, 13) :: (4, 14) :: (5, 15) :: (6, 16) :: (7, 17) :: (8, 18) :: (9, 19) :: []) (.det _ :: .det _ :: .det _ :: .det _ :: .det _ :: .det _ :: .det _ :: .det _ :: .det _ :: .det _ :: []) (by kernel_rfl) (by kernel_rfl) (by kernel_rfl) rfl (by kernel_rfl) (by kernel_rfl) rfl (by kernel_rfl) ?hone ?hend
      case hone =>
        intro CS frS VS hCS ha hV
        have qs0 := slot_val (t := 0) ha rfl
        simp only [List.getElem_toArray, List.getElem_cons_succ, List.getElem_cons_zero] at qs0
        have HCS := Lib.hid hCS
        have HVS := Lib.hid hV
        clear ha hCS hV
        -- 0: slot 10 := Op.move t0
        refine sure_det (js := []) (ts := [0]) (gd := none) (place_at HVS.out (k := 0) rfl) (by rw [HCS.out]; kernel_rfl) ?_ ?_
        · intro wx hx ρ hρ hs hf
          have hρc := hρ.const
          have hρf := hρ.func
          obtain ⟨fx0, -⟩ := hf
          rw [qs0] at fx0
          clear hs
          clear HCS HVS qs0
          refine run_plain ?_
          refine op_move rfl fx0 ?_
          exact detK.mk
        -- 1: slot 11 := Op.nilCheck t10
        refine sure_det (js := [(0, 10)]) (ts := []) (gd := none) (place_at HVS.out (k := 1) rfl) (by rw [HCS.out]; kernel_rfl) ?_ ?_
        · intro wx hx ρ hρ hs hf
          have hρc := hρ.const
          have hρf := hρ.func
          obtain ⟨sn0, -⟩ := hs
          rw [place_at HVS.out (k := 0) rfl] at sn0
          replace sn0 : ρ (.tmp 10) = _ := sn0
          clear hf
          clear HCS HVS qs0
          refine run_plain ?_
          unfold runs
          go_simp
          exact detK.mk
        -- 2: slot 12 := Op.fieldAddr 142 t11 1
        refine sure_det (js := [(1, 11)]) (ts := []) (gd := none) (place_at HVS.out (k := 2) rfl) (by rw [HCS.out]; kernel_rfl) ?_ ?_
        · intro wx hx ρ hρ hs hf
          have hρc := hρ.const
          have hρf := hρ.func
          obtain ⟨sn1, -⟩ := hs
          rw [place_at HVS.out (k := 1) rfl] at sn1
          replace sn1 : ρ (.tmp 11) = _ := sn1
          clear hf
          clear HCS HVS qs0
          refine run_plain ?_
          unfold runs
          go_simp
          exact detK.mk
        -- 3: slot 13 := Op.load 3 t12
        refine sure_det (js := [(2, 12)]) (ts := []) (gd := none) (place_at HVS.out (k := 3) rfl) (by rw [HCS.out]; kernel_rfl) ?_ ?_
        · intro wx hx ρ hρ hs hf
          have hρc := hρ.const
          have hρf := hρ.func
          obtain ⟨sn2, -⟩ := hs
          rw [place_at HVS.out (k := 2) rfl] at sn2
          replace sn2 : ρ (.tmp 12) = _ := sn2
          clear hf
          clear HCS HVS qs0
          refine run_plain ?_
          obtain ⟨c0, c1, -⟩ := hX wx hx.drawn
          unfold runs
          go_simp
          exact detK.mk
        -- 4: slot 14 := Op.move t0
        refine sure_det (js := []) (ts := [0]) (gd := none) (place_at HVS.out (k := 4) rfl) (by rw [HCS.out]; kernel_rfl) ?_ ?_
        · intro wx hx ρ hρ hs hf
          have hρc := hρ.const
          have hρf := hρ.func
          obtain ⟨fx0, -⟩ := hf
          rw [qs0] at fx0
          clear hs
          clear HCS HVS qs0
          refine run_plain ?_
          refine op_move rfl fx0 ?_
          exact detK.mk
        -- 5: slot 15 := Op.nilCheck t14
        refine sure_det (js := [(4, 14)]) (ts := []) (gd := none) (place_at HVS.out (k := 5) rfl) (by rw [HCS.out]; kernel_rfl) ?_ ?_
        · intro wx hx ρ hρ hs hf
          have hρc := hρ.const
          have hρf := hρ.func
          obtain ⟨sn4, -⟩ := hs
          rw [place_at HVS.out (k := 4) rfl] at sn4
          replace sn4 : ρ (.tmp 14) = _ := sn4
          clear hf
          clear HCS HVS qs0
          refine run_plain ?_
          unfold runs
          go_simp
          exact detK.mk
        -- 6: slot 16 := Op.fieldAddr 142 t15 0
        refine sure_det (js := [(5, 15)]) (ts := []) (gd := none) (place_at HVS.out (k := 6) rfl) (by rw [HCS.out]; kernel_rfl) ?_ ?_
        · intro wx hx ρ hρ hs hf
          have hρc := hρ.const
          have hρf := hρ.func
          obtain ⟨sn5, -⟩ := hs
          rw [place_at HVS.out (k := 5) rfl] at sn5
          replace sn5 : ρ (.tmp 15) = _ := sn5
          clear hf
          clear HCS HVS qs0
          refine run_plain ?_
          unfold runs
          go_simp
          exact detK.mk
        -- 7: slot 17 := Op.load 25 t16
        refine sure_det (js := [(6, 16)]) (ts := []) (gd := none) (place_at HVS.out (k := 7) rfl) (by rw [HCS.out]; kernel_rfl) ?_ ?_
        · intro wx hx ρ hρ hs hf
          have hρc := hρ.const
          have hρf := hρ.func
          obtain ⟨sn6, -⟩ := hs
          rw [place_at HVS.out (k := 6) rfl] at sn6
          replace sn6 : ρ (.tmp 16) = _ := sn6
          clear hf
          clear HCS HVS qs0
          refine run_plain ?_
          obtain ⟨c0, c1, -⟩ := hX wx hx.drawn
          unfold runs
          go_simp
          exact detK.mk
        -- 8: slot 18 := Op.call { len, args := #[t17], argTypes := #[25] }
        refine sure_det (js := [(7, 17)]) (ts := []) (gd := none) (place_at HVS.out (k := 8) rfl) (by rw [HCS.out]; kernel_rfl) ?_ ?_
        · intro wx hx ρ hρ hs hf
          have hρc := hρ.const
          have hρf := hρ.func
          obtain ⟨sn7, -⟩ := hs
          rw [place_at HVS.out (k := 7) rfl] at sn7
          replace sn7 : ρ (.tmp 17) = _ := sn7
          clear hf
          clear HCS HVS qs0
          refine run_plain ?_
          unfold runs
          go_simp
          exact detK.mk
        -- 9: slot 19 := Op.binOp BinOp.lss 3 t13 t18 3
        refine sure_det (js := [(3, 13), (8, 18)]) (ts := []) (gd := none) (place_at HVS.out (k := 9) rfl) (by rw [HCS.out]; kernel_rfl) ?_ ?_
        · intro wx hx ρ hρ hs hf
          have hρc := hρ.const
          have hρf := hρ.func
          obtain ⟨sn3, sn8, -⟩ := hs
          rw [place_at HVS.out (k := 3) rfl] at sn3
          replace sn3 : ρ (.tmp 13) = _ := sn3
          rw [place_at HVS.out (k := 8) rfl] at sn8
          replace sn8 : ρ (.tmp 18) = _ := sn8
          clear hf
          clear HCS HVS qs0
          refine run_plain ?_
          unfold runs
          go_simp
          exact detK.mk
        exact trivial
      case hend =>
        intro xs wx hx hg
        have gk0 : xs 0 = _ := goods_get hg (i := 0) (j := 0) (d := 10) rfl
        have gk1 : xs 1 = _ := goods_get hg (i := 1) (j := 1) (d := 11) rfl
        have gk2 : xs 2 = _ := goods_get hg (i := 2) (j := 2) (d := 12) rfl
        have gk3 : xs 3 = _ := goods_get hg (i := 3) (j := 3) (d := 13) rfl
        have gk4 : xs 4 = _ := goods_get hg (i := 4) (j := 4) (d := 14) rfl
        have gk5 : xs 5 = _ := goods_get hg (i := 5) (j := 5) (d := 15) rfl
        have gk6 : xs 6 = _ := goods_get hg (i := 6) (j := 6) (d := 16) rfl
        have gk7 : xs 7 = _ := goods_get hg (i := 7) (j := 7) (d := 17) rfl
        have gk8 : xs 8 = _ := goods_get hg (i := 8) (j := 8) (d := 18) rfl
        have gk9 : xs 9 = _ := goods_get hg (i := 9) (j := 9) (d := 19) rfl
        clear hg
        simp only [putAll, gk0, gk1, gk2, gk3, gk4, gk5, gk6, gk7, gk8, gk9]
        clear gk0 gk1 gk2 gk3 gk4 gk5 gk6 gk7 gk8 gk9
        clear xs
        simp only [Act.put, List.setIfInBounds_toArray, List.set_cons_zero, List.set_cons_succ]
        obtain ⟨-, -, -, hg1, hr1, hy1⟩ := hX wx hx.drawn
        have hE1 := hW.trans hx.drawn
        have HC1 := Lib.hid hg1
        have HR1 := Lib.hid hr1
        have c0 : wx.cell? ⟨g, 0, none⟩ = some (.slice A n c) := by simp [World.cell?, hg1]
        have cf0 : wx.frozen? ⟨g, 0, none⟩ = false := by simp [World.frozen?, hg1]
        have c1 : wx.cell? ⟨g, 1, none⟩ = some (.int .i64 i) := by simp [World.cell?, hg1]
        have cf1 : wx.frozen? ⟨g, 1, none⟩ = false := by simp [World.frozen?, hg1]
        have c2 : wx.cell? ⟨g, 2, none⟩ = some (.bool false) := by simp [World.cell?, hg1]
        have cf2 : wx.frozen? ⟨g, 2, none⟩ = false := by simp [World.frozen?, hg1]
        have c3 : wx.cell? ⟨g, 3, none⟩ = some (.int .i64 x0) := by simp [World.cell?, hg1]
        have cf3 : wx.frozen? ⟨g, 3, none⟩ = false := by simp [World.frozen?, hg1]
        have c4 : wx.cell? ⟨g, 4, none⟩ = some (.int .i64 x1) := by simp [World.cell?, hg1]
        have cf4 : wx.frozen? ⟨g, 4, none⟩ = false := by simp [World.frozen?, hg1]
        have c5 : wx.cell? ⟨g, 5, none⟩ = some (.int .u64 x2) := by simp [World.cell?, hg1]
        have cf5 : wx.frozen? ⟨g, 5, none⟩ = false := by simp [World.frozen?, hg1]
        have c6 : wx.cell? ⟨g, 6, none⟩ = some (.int .u64 x3) := by simp [World.cell?, hg1]
        have cf6 : wx.frozen? ⟨g, 6, none⟩ = false := by simp [World.frozen?, hg1]
        have c7 : wx.cell? ⟨g, 7, none⟩ = some (.slice x4 x5 x6) := by simp [World.cell?, hg1]
        have cf7 : wx.frozen? ⟨g, 7, none⟩ = false := by simp [World.frozen?, hg1]
        have c8 : wx.cell? ⟨g, 8, none⟩ = some (.slice x7 x8 x9) := by simp [World.cell?, hg1]
        have cf8 : wx.frozen? ⟨g, 8, none⟩ = false := by simp [World.frozen?, hg1]
        have r0 : wx.cell? ⟨w.heap.size + 1, 0, none⟩ = some (.int .u64 0) := by simp [World.cell?, hr1]
        have rf0 : wx.frozen? ⟨w.heap.size + 1, 0, none⟩ = false := by simp [World.frozen?, hr1]
        have r1 : wx.cell? ⟨w.heap.size + 1, 1, none⟩ = some (.slice none 0 0) := by simp [World.cell?, hr1]
        have rf1 : wx.frozen? ⟨w.heap.size + 1, 1, none⟩ = false := by simp [World.frozen?, hr1]
        have r2 : wx.cell? ⟨w.heap.size + 1, 2, none⟩ = some (.bool false) := by simp [World.cell?, hr1]
        have rf2 : wx.frozen? ⟨w.heap.size + 1, 2, none⟩ = false := by simp [World.frozen?, hr1]
        have z0 : wx.cell? ⟨w.heap.size, 0, none⟩ = some (.int .i64 y0) := by simp [World.cell?, hy1]
        have z1 : wx.cell? ⟨w.heap.size, 1, none⟩ = some (.int .i64 y1) := by simp [World.cell?, hy1]
        have z2 : wx.cell? ⟨w.heap.size, 2, none⟩ = some (.int .u64 y2) := by simp [World.cell?, hy1]
        have z3 : wx.cell? ⟨w.heap.size, 3, none⟩ = some (.int .u64 y3) := by simp [World.cell?, hy1]
        have z4 : wx.cell? ⟨w.heap.size, 4, none⟩ = some (.slice y4 y5 y6) := by simp [World.cell?, hy1]
        have z5 : wx.cell? ⟨w.heap.size, 5, none⟩ = some (.slice y7 y8 y9) := by simp [World.cell?, hy1]
        clear hg1 hr1 hy1 hX
        go_wp2
        have e1 : Cu.told rs ⟨i, false, ⟨x0, x1, x2, x3, x4, x5, x6, x7, x8, x9⟩⟩ = Res.zero := by simp [Cu.told, hi]
        have e2 : Cu.next rs ⟨y0, y1, y2, y3, y4, y5, y6, y7, y8, y9⟩ ⟨i, false, ⟨x0, x1, x2, x3, x4, x5, x6, x7, x8, x9⟩⟩ = ⟨i, true, ⟨y0, y1, y2, y3, y4, y5, y6, y7, y8, y9⟩⟩ := by simp [Cu.next, Nat.not_lt.2 hi]
        refine bodyPost_ret (v := .agg #[.int .u64 0, .slice none 0 0, .bool false]) (by simp [results, Try.results155, go_sem, r0, r1, r2]) rfl ⟨by simp only [e1, Res.zero], ?_, ?_⟩
        · rw [e2]
          have h1 : (setAll g 2 [.bool true, .int .i64 y0, .int .i64 y1, .int .u64 y2, .int .u64 y3, .slice y4 y5 y6, .slice y7 y8 y9] wx).heap[g]? = some (.cells (([.slice A n c, .int .i64 i] ++ [.bool true, .int .i64 y0, .int .i64 y1, .int .u64 y2, .int .u64 y3, .slice y4 y5 y6, .slice y7 y8 y9] : List Value)).toArray 142 (0, 0)) :=
            setAll_same _ [.slice A n c, .int .i64 i] [.bool false, .int .i64 x0, .int .i64 x1, .int .u64 x2, .int .u64 x3, .slice x4 x5 x6, .slice x7 x8 x9] wx HC1.out rfl
          have h2 := (setAll_other (g := w.heap.size + 1) (k := g) (by omega) [.int .u64 0, .slice none 0 0, .bool false] 0 _).trans h1
          exact h2
        · have h1 : ExtB g w wx := ExtB.of hE1
          have h2 : ExtB g w (((((((wx.setCell ⟨g, 2, none⟩ (.bool true)).setCell ⟨g, 3, none⟩ (.int .i64 y0)).setCell ⟨g, 4, none⟩ (.int .i64 y1)).setCell ⟨g, 5, none⟩ (.int .u64 y2)).setCell ⟨g, 6, none⟩ (.int .u64 y3)).setCell ⟨g, 7, none⟩ (.slice y4 y5 y6)).setCell ⟨g, 8, none⟩ (.slice y7 y8 y9)) :=
            ((((((h1.set _ _).set _ _).set _ _).set _ _).set _ _).set _ _).set _ _
          exact ((h2.trans_set (by omega)).trans_set (by omega)).trans_set (by omega)
end Go.Proofs.Ytjokaginolpbeaa

namespace Go.Proofs.Ytjokaginolpbeaa
open Go.RowKit

/-! wealdref11.Cur: Load, Store, Cas. -/
theorem LogV.cur {w w' : World} {g : Nat} {A : Option Addr} {n c : Nat} {rs : List Res} (h : LogV w A n c rs) (hx : ExtB g w w') (hsep : ∀ a, A = some a → 0 < n → a.block ≠ g) : LogV w' A n c rs :=
  ⟨h.len, h.small, fun j r hr => let ⟨a, ha, h1⟩ := h.at_ j r hr; ⟨a, ha, h1.extB hx (hsep a ha (by have := (List.getElem?_eq_some_iff.1 hr).1; have := h.len; omega))⟩⟩
theorem CurAt.ext {w w' : World} {g : Nat} {A : Option Addr} {n c : Nat} {s : Cu} (h : CurAt w g A n c s) (hx : Ext w w') : CurAt w' g A n c s := heap_ext h hx
set_option maxRecDepth 100000 in
theorem cload_any (i : Int) (g : Nat) (A : Option Addr) (n c : Nat) (s : Cu) (rs : List Res) (w : World) (hlog : LogV w A n c rs) (hsep : ∀ a, A = some a → 0 < n → a.block ≠ g) (hcur : CurAt w g A n c s) :
    Calls Try.prog 144 #[.pointer (some ⟨g, 0, none⟩), .int .i64 i] w fun e w' => e = .returned (.int .u64 (s.told rs).n) ∧ CurAt w' g A n c (s.next rs (accL i)) ∧ ExtB g w w' := by
  have hb : ∀ (W : World) (x y : Int), (Instr.build 33 #[(0, .int .i64 x), (1, .int .i64 y)]).run Try.prog W = .ok (.agg #[.int .i64 x, .int .i64 y, .int .u64 0, .int .u64 0, .slice none 0 0, .slice none 0 0]) W := fun _ _ _ => by kernel_rfl
  go_enter Try.func144, Try.ntmps144
  go_wp2_with fail
  refine (rdo_any (accL i) g A n c s rs w hlog hsep hcur).mono ?_
  rintro e w1 ⟨rfl, hC, hx⟩
  obtain ⟨rn, rA, rk, rc, rf, hr⟩ : ∃ rn rA rk rc rf, s.told rs = ⟨rn, rA, rk, rc, rf⟩ := ⟨_, _, _, _, _, rfl⟩
  rw [hr]
  simp only
  have HR := Lib.hid hr
  clear hr
  go_upto_region 2 with (fail)
  have hx1 : Ext w1 (w1.alloc (.cells #[.int .u64 rn, .slice rA rk rc, .bool rf] 59)) := (Below.refl _ w1).alloc (Nat.le_refl _) _
  have hR := heap_alloc_new w1 (.cells #[.int .u64 rn, .slice rA rk rc, .bool rf] 59)
  generalize w1.alloc (.cells #[.int .u64 rn, .slice rA rk rc, .bool rf] 59) = w2 at *
  generalize w1.heap.size = gr at *
  have c0 : w2.cell? ⟨gr, 0, none⟩ = some (.int .u64 rn) := by simp [World.cell?, hR]
  go_wp2
  go_ret
  exact ⟨by rw [HR.out]; rfl, hC.ext hx1, hx.trans (.of hx1)⟩
set_option maxRecDepth 100000 in
theorem ccas_any (i a b : Int) (g : Nat) (A : Option Addr) (n c : Nat) (s : Cu) (rs : List Res) (w : World) (hlog : LogV w A n c rs) (hsep : ∀ a, A = some a → 0 < n → a.block ≠ g) (hcur : CurAt w g A n c s) :
    Calls Try.prog 147 #[.pointer (some ⟨g, 0, none⟩), .int .i64 i, .int .u64 a, .int .u64 b] w fun e w' => e = .returned (.bool ((s.told rs).n == 1)) ∧ CurAt w' g A n c (s.next rs (accC i a b)) ∧ ExtB g w w' := by
  have hb : ∀ (W : World) (x y z u : Int), (Instr.build 33 #[(0, .int .i64 x), (1, .int .i64 y), (2, .int .u64 z), (3, .int .u64 u)]).run Try.prog W = .ok (.agg #[.int .i64 x, .int .i64 y, .int .u64 z, .int .u64 u, .slice none 0 0, .slice none 0 0]) W := fun _ _ _ _ _ => by kernel_rfl
  go_enter Try.func147, Try.ntmps147
  go_wp2_with fail
  refine (rdo_any (accC i a b) g A n c s rs w hlog hsep hcur).mono ?_
  rintro e w1 ⟨rfl, hC, hx⟩
  obtain ⟨rn, rA, rk, rc, rf, hr⟩ : ∃ rn rA rk rc rf, s.told rs = ⟨rn, rA, rk, rc, rf⟩ := ⟨_, _, _, _, _, rfl⟩
  rw [hr]
  simp only
  have HR := Lib.hid hr
  clear hr
  go_upto_region 2 with (fail)
  have hx1 : Ext w1 (w1.alloc (.cells #[.int .u64 rn, .slice rA rk rc, .bool rf] 59)) := (Below.refl _ w1).alloc (Nat.le_refl _) _
  have hR := heap_alloc_new w1 (.cells #[.int .u64 rn, .slice rA rk rc, .bool rf] 59)
  generalize w1.alloc (.cells #[.int .u64 rn, .slice rA rk rc, .bool rf] 59) = w2 at *
  generalize w1.heap.size = gr at *
  have c0 : w2.cell? ⟨gr, 0, none⟩ = some (.int .u64 rn) := by simp [World.cell?, hR]
  go_wp2
  go_ret
  exact ⟨by rw [HR.out]; rfl, hC.ext hx1, hx.trans (.of hx1)⟩
set_option maxRecDepth 100000 in
theorem cstore_any (i a : Int) (g : Nat) (A : Option Addr) (n c : Nat) (s : Cu) (rs : List Res) (w : World) (hlog : LogV w A n c rs) (hsep : ∀ a, A = some a → 0 < n → a.block ≠ g) (hcur : CurAt w g A n c s) :
    Calls Try.prog 145 #[.pointer (some ⟨g, 0, none⟩), .int .i64 i, .int .u64 a] w fun e w' => e = .returned (.tuple #[]) ∧ CurAt w' g A n c (s.next rs (accS i a)) ∧ ExtB g w w' := by
  have hb : ∀ (W : World) (x y z : Int), (Instr.build 33 #[(0, .int .i64 x), (1, .int .i64 y), (2, .int .u64 z)]).run Try.prog W = .ok (.agg #[.int .i64 x, .int .i64 y, .int .u64 z, .int .u64 0, .slice none 0 0, .slice none 0 0]) W := fun _ _ _ _ => by kernel_rfl
  go_enter Try.func145, Try.ntmps145
  go_wp2_with fail
  refine (rdo_any (accS i a) g A n c s rs w hlog hsep hcur).mono ?_
  rintro e w1 ⟨rfl, hC, hx⟩
  go_wp2
  refine bodyPost_end (v := .tuple #[]) (by simp [results, Try.results145, go_sem]) rfl ⟨rfl, hC, hx⟩
end Go.Proofs.Ytjokaginolpbeaa

namespace Go.Proofs.Ytjokaginolpbeaa
open Go.RowKit

/-! The document's text (wealdref08), and 'shown'. -/
theorem rtop_ref (r t : Int) (hr : isRef r) (ht : U64 t) (w : World) :
    Calls Try.prog 50 #[.int .i64 r, .int .u64 t] w fun e w' => e = .returned (.int .u64 (topF r t)) ∧ w = w' := by
  have hr' := hr
  obtain ⟨h0, h1⟩ := hr'
  have h2 := ht.1
  go_enter Try.func50, Try.ntmps50
  go_wp2
  go_ret
  exact ⟨ret_int (top_ref hr ht).symm, rfl⟩
theorem rfirst_any (n : Int) (h : U64 n) (w : World) :
    Calls Try.prog 52 #[.int .u64 n] w fun e w' => e = .returned (.int .i64 (firstF n)) ∧ w = w' := by
  have h0 := h.1
  have h9 := h.2
  go_enter Try.func52, Try.ntmps52
  go_wp2
  go_ret
  exact ⟨ret_int (by simp [firstF]), rfl⟩
theorem rtag_any (n : Int) (h : U64 n) (w : World) :
    Calls Try.prog 54 #[.int .u64 n] w fun e w' => e = .returned (.int .u64 (tagF n)) ∧ w = w' := by
  have h0 := h.1
  have h9 := h.2
  go_enter Try.func54, Try.ntmps54
  go_wp2
  go_ret
  exact ⟨ret_int (by simp [tagF]), rfl⟩
end Go.Proofs.Ytjokaginolpbeaa

namespace Go.Proofs.Ytjokaginolpbeaa
open Go.RowKit

/-! wealdref12.Pop, wealdref12.Push: what popN and pushN say. -/
def Cu.after (rs : List Res) (s : Cu) : ProgE → Cu
  | .stop x => ⟨rs.length, true, x⟩
  | .ret _ k => ⟨k, false, s.x⟩
def ProgE.val : ProgE → Int
  | .stop _ => 0
  | .ret r _ => r
theorem rfieldB_any (t r : Int) (h1 : 0 ≤ t) (h2 : t ≤ 64) (h3 : 0 ≤ r) (h4 : r ≤ 1048576) (w : World) :
    Calls Try.prog 66 #[.int .i64 t, .int .i64 r, .int .i64 7] w fun e w' => e = .returned (.int .i64 (linkI t r)) ∧ w = w' :=
  (rfield_any t r 7 (by omega) (by omega) (by omega) (by omega) (by omega) (by omega) w).mono fun _ _ ⟨he, hw⟩ => ⟨by rw [he]; rfl, hw⟩
theorem Cu.on {rs : List Res} {s : Cu} {y : Acc} {r : Res} {R : List Res} (hs : s.stop = false) (h : rs.drop s.i = r :: R) : s.told rs = r ∧ s.next rs y = ⟨s.i + 1, false, s.x⟩ ∧ rs.drop (s.i + 1) = R := by
  have h1 : s.i < rs.length := by
    rcases Nat.lt_or_ge s.i rs.length with h' | h'
    · exact h'
    · rw [List.drop_eq_nil_of_le h'] at h; cases h
  have h2 : rs[s.i]? = some r := by rw [List.getElem?_eq_getElem h1]; rw [List.drop_eq_getElem_cons h1] at h; injection h with h _; rw [h]
  refine ⟨by simp [Cu.told, hs, h2], by simp [Cu.next, hs, h1], ?_⟩
  rw [show rs.drop (s.i + 1) = (rs.drop s.i).drop 1 by rw [List.drop_drop], h]; rfl
theorem Cu.off {rs : List Res} {s : Cu} {y : Acc} (hs : s.stop = false) (h : rs.drop s.i = []) (hi : s.i ≤ rs.length) : s.told rs = Res.zero ∧ s.next rs y = ⟨rs.length, true, y⟩ := by
  have h1 : s.i = rs.length := by
    rcases Nat.lt_or_ge s.i rs.length with h' | h'
    · rw [List.drop_eq_getElem_cons h'] at h; cases h
    · omega
  refine ⟨by simp [Cu.told, hs, h1], by simp [Cu.next, hs, h1]⟩
theorem Cu.still {rs : List Res} {s : Cu} {y : Acc} (hs : s.stop = true) : s.told rs = Res.zero ∧ s.next rs y = s := by simp [Cu.told, Cu.next, hs]
def curM (g : Nat) (w : World) : Nat := match w.cell? ⟨g, 2, none⟩ with
  | some (.bool true) => 0
  | _ => match w.cell? ⟨g, 1, none⟩ with
    | some (.int _ i) => 65537 - i.toNat
    | _ => 0
theorem CurAt.cells {w : World} {g : Nat} {A : Option Addr} {n c : Nat} {s : Cu} (h : CurAt w g A n c s) : w.cell? ⟨g, 1, none⟩ = some (.int .i64 (s.i : Int)) ∧ w.cell? ⟨g, 2, none⟩ = some (.bool s.stop) := by
  unfold CurAt curCells at h
  simp [World.cell?, h]
theorem CurAt.m {w : World} {g : Nat} {A : Option Addr} {n c : Nat} {s : Cu} (h : CurAt w g A n c s) : curM g w = if s.stop then 0 else 65537 - s.i := by
  obtain ⟨h1, h2⟩ := h.cells
  unfold curM
  rw [h2, h1]
  cases s.stop <;> simp
end Go.Proofs.Ytjokaginolpbeaa

namespace Go.Proofs.Ytjokaginolpbeaa
open Go.RowKit

/-! A row of ints of the call's own, its spare part known too: what is laid onto it turns no world. -/
def intCells (l : List Int) : List Value := l.map (.int .i64)
theorem intCells_take (l : List Int) (n : Nat) : (intCells l).take n = intCells (l.take n) := by simp [intCells, List.map_take]
theorem intCells_at {l : List Int} {i : Nat} {x : Int} (h : l[i]? = some x) : (intCells l)[i]? = some (.int .i64 x) := by simp [intCells, h]
def IntOwn (w : World) (base : Nat) (v : Value) (n : Nat) (l : List Int) : Prop :=
  l.length = n ∧ ((v = .slice none 0 0 ∧ n = 0) ∨ ∃ g cap full, v = .slice (some ⟨g, 0, none⟩) n cap ∧ base ≤ g ∧ w.heap[g]? = some (.cells (intCells full).toArray 3 (0, 0)) ∧ n ≤ cap ∧ cap ≤ maxLen ∧ full.length = cap ∧ full.take n = l)
theorem IntOwn.nil (w : World) (base : Nat) : IntOwn w base (.slice none 0 0) 0 [] := ⟨rfl, .inl ⟨rfl, rfl⟩⟩
theorem IntOwn.kept {w w' : World} {base : Nat} {v : Value} {n : Nat} {l : List Int} (h : IntOwn w base v n l) (hk : ∀ g o, base ≤ g → some g = v.ownBlock → w.heap[g]? = some o → w'.heap[g]? = some o) : IntOwn w' base v n l := by
  refine ⟨h.1, ?_⟩
  rcases h.2 with h2 | ⟨g, cap, full, e, hb, hg, h3⟩
  · exact .inl h2
  · exact .inr ⟨g, cap, full, e, hb, hk g _ hb (by rw [e]; rfl) hg, h3⟩
theorem IntOwn.ext {w w' : World} {base : Nat} {v : Value} {n : Nat} {l : List Int} (h : IntOwn w base v n l) (hx : Ext w w') : IntOwn w' base v n l := h.kept fun _ _ _ _ ho => heap_ext ho hx
/-- another own row grows -/
theorem IntOwn.grown {w w' : World} {base : Nat} {v u : Value} {n : Nat} {l : List Int} (h : IntOwn w base v n l) (hg : w.grownBy w' u.ownBlock) (hne : ∀ g, v.ownBlock = some g → u.ownBlock ≠ some g) : IntOwn w' base v n l :=
  h.kept fun g o _ hv ho => by
    rw [hg.block g (Array.getElem?_eq_some_iff.1 ho).1 (fun e => hne g hv.symm e.symm)]; exact ho
theorem IntOwn.form {w : World} {base : Nat} {v : Value} {n : Nat} {l : List Int} (h : IntOwn w base v n l) : ∃ B c, v = .slice B n c ∧ Cells w B (intCells l) ∧ (B = none → c = 0 ∧ n = 0) ∧ (∀ b, B = some b → ∃ g, b = ⟨g, 0, none⟩ ∧ base ≤ g ∧ v.ownBlock = some g) ∧ n ≤ c ∧ c ≤ maxLen := by
  obtain ⟨hl, h⟩ := h
  rcases h with ⟨rfl, rfl⟩ | ⟨g, cap, full, rfl, hb, hg, h1, h2, h3, rfl⟩
  · have : l = [] := List.eq_nil_of_length_eq_zero hl
    subst this
    exact ⟨none, 0, rfl, Cells.nil _ _, fun _ => ⟨rfl, rfl⟩, (by intro b h; cases h), Nat.le_refl _, by simp only [maxLen]; omega⟩
  · refine ⟨_, _, rfl, fun _ => ⟨_, rfl, fun j u hj => ?_⟩, (by intro h; cases h), (by intro b h; cases h; exact ⟨g, rfl, hb, rfl⟩), h1, h2⟩
    rw [← intCells_take, List.getElem?_take] at hj
    split at hj
    · obtain ⟨a, ha, hc⟩ := cells_heap hg (fun e => by rw [e] at hj; simp at hj)
      cases ha
      exact hc j u hj
    · cases hj
/-- an element of it -/
theorem IntOwn.at {w : World} {base : Nat} {v : Value} {n : Nat} {l : List Int} (h : IntOwn w base v n l) {i : Nat} {x : Int} (hi : l[i]? = some x) : ∃ g c, v = .slice (some ⟨g, 0, none⟩) n c ∧ base ≤ g ∧ n ≤ c ∧ c ≤ maxLen ∧ w.cell? ⟨g, i, none⟩ = some (.int .i64 x) := by
  obtain ⟨hl, h⟩ := h
  rcases h with ⟨rfl, rfl⟩ | ⟨g, cap, full, rfl, hb, hg, h1, h2, h3, rfl⟩
  · have : l = [] := List.eq_nil_of_length_eq_zero hl
    subst this; simp at hi
  · refine ⟨g, cap, rfl, hb, h1, h2, ?_⟩
    rw [List.getElem?_take] at hi
    split at hi
    · have := intCells_at hi
      simp only [World.cell?, hg, Option.isSome_none, Bool.false_eq_true, if_false]
      simpa using this
    · cases hi
theorem IntOwn.low {w : World} {base : Nat} {v : Value} {n : Nat} {l : List Int} (h : IntOwn w base v n l) {k : Nat} (hk : k < base) : v.ownBlock ≠ some k := by
  rcases h.2 with ⟨rfl, _⟩ | ⟨g, cap, full, rfl, hb, hh, _⟩
  · simp [Value.ownBlock]
  · simp only [Value.ownBlock]; intro e; injection e with e; omega
theorem IntOwn.lt {w : World} {base : Nat} {v : Value} {n : Nat} {l : List Int} (h : IntOwn w base v n l) {k : Nat} (hk : v.ownBlock = some k) : base ≤ k ∧ k < w.heap.size := by
  rcases h.2 with ⟨rfl, _⟩ | ⟨g, cap, full, rfl, hb, hh, _⟩
  · simp [Value.ownBlock] at hk
  · simp only [Value.ownBlock] at hk; injection hk with hk; subst hk; exact ⟨hb, (Array.getElem?_eq_some_iff.1 hh).1⟩
end Go.Proofs.Ytjokaginolpbeaa

namespace Go.Proofs.Ytjokaginolpbeaa
open Go.RowKit

/-! wealdref12.Free: a chain's records. -/
theorem WldV.words {w : World} {X : WldK} {T C : Int} {A : Option Addr} {q c : Nat} {R : Int} {B C' : Option Addr} {n b n' d : Nat} (h : WldV w (.agg #[.int .i64 T, .int .i64 C, .slice A q c, .int .u64 R, .slice B n b, .slice C' n' d]) X) : WordsV w A q c X.ws := by
  obtain ⟨A2, q2, c2, B2, C2, b2, d2, e, hw, -⟩ := h
  simp only [Value.agg.injEq, Array.mk.injEq, List.cons.injEq, Value.slice.injEq, and_true] at e
  obtain ⟨-, -, ⟨rfl, rfl, rfl⟩, -⟩ := e
  exact hw
theorem nodup_len : ∀ (c : Nat) (l : List Int), l.Nodup → (∀ x ∈ l, 1 ≤ x ∧ x ≤ (c : Int)) → l.length ≤ c
  | 0, l, _, h => by
    cases l with
    | nil => simp
    | cons x l => have := h x (by simp); omega
  | c + 1, l, hd, h => by
    have h1 := nodup_len c (l.erase ((c : Int) + 1)) (hd.erase _) (fun x hx => by
      have hm := List.mem_of_mem_erase hx
      have hne : x ≠ (c : Int) + 1 := fun e => by subst e; exact (List.Nodup.not_mem_erase hd) hx
      have := h x hm
      omega)
    have h2 : l.length ≤ (l.erase ((c : Int) + 1)).length + 1 := by
      by_cases hm : ((c : Int) + 1) ∈ l
      · rw [List.length_erase_of_mem hm]; omega
      · rw [List.erase_of_not_mem hm]; omega
    omega
theorem PoolK.len {X : WldK} {t c : Nat} {pile : List Int} (h : PoolK X t c pile) : pile.length ≤ c := nodup_len c pile h.nodup h.chain.mem
end Go.Proofs.Ytjokaginolpbeaa

namespace Go.Proofs.Ytjokaginolpbeaa
open Go.RowKit

/-! What the laws of chapter 12 share. -/
theorem WldV.word {w : World} {X : WldK} {T C : Int} {A : Option Addr} {q c : Nat} {R : Int} {B C' : Option Addr} {n b n' d : Nat} (h : WldV w (.agg #[.int .i64 T, .int .i64 C, .slice A q c, .int .u64 R, .slice B n b, .slice C' n' d]) X) (h2 : 2 ≤ X.ws.length) :
    ∃ a, A = some a ∧ q = X.ws.length ∧ ∀ i : Nat, i < q → w.cell? (a.add i) = some (.int .u64 (X.at (i : Int))) := by
  have hA := h.words
  have hne : wordsOf X.ws ≠ [] := fun e => by
    have := congrArg List.length e
    rw [wordsOf_length, List.length_nil] at this; omega
  obtain ⟨a, rfl, hc⟩ := hA.cells hne
  refine ⟨a, rfl, hA.len.symm, fun i hi => hc i _ ?_⟩
  unfold wordsOf WldK.at
  rw [List.getElem?_map]
  have hi2 : i < X.ws.length := by rw [hA.len]; exact hi
  simp [List.getElem?_eq_getElem hi2, List.getD_eq_getElem?_getD]
/-- what is free, and what is had: all records, each once -/
structure HK (N : Nat) (pile held : List Int) : Prop where
  nodup : (pile ++ held).Nodup
  rng : ∀ x ∈ held, 1 ≤ x ∧ x ≤ (N : Int)
  len : pile.length + held.length = N
theorem HK.new (N : Nat) : HK N (upFrom 1 N) [] := ⟨by rw [List.append_nil]; exact upFrom_nodup _ _, by simp, by
  have : ∀ n r, (upFrom r n).length = n := fun n => by
    induction n with
    | zero => intro r; rfl
    | succ n ih => intro r; simp [upFrom, ih]
  simp [this]⟩
end Go.Proofs.Ytjokaginolpbeaa

namespace Go.Proofs.Ytjokaginolpbeaa
open Go.RowKit

/-! The example of chapter 13. -/
set_option maxRecDepth 100000 in
set_option maxHeartbeats 4000000 in
theorem shown13_any (w : World) : Calls Try.prog 15 #[] w fun e w' => e = .returned (.bool true) ∧ Ext w w' := by
  have hb6 : ∀ (W : World), (Instr.build 24 #[(0, .int .i64 6)]).run Try.prog W = .ok (.agg #[.int .i64 6, .int .i64 0, .int .i64 0, .int .u64 0]) W := fun _ => by kernel_rfl
  have hb3 : ∀ (W : World), (Instr.build 24 #[(0, .int .i64 3)]).run Try.prog W = .ok (.agg #[.int .i64 3, .int .i64 0, .int .i64 0, .int .u64 0]) W := fun _ => by kernel_rfl
  have hb5 : ∀ (W : World), (Instr.build 24 #[(0, .int .i64 5), (1, .int .i64 1)]).run Try.prog W = .ok (.agg #[.int .i64 5, .int .i64 1, .int .i64 0, .int .u64 0]) W := fun _ => by kernel_rfl
  have hnew := ranew_yes 2 1 (by omega) (by omega) (by omega) w
  have cV := exc_V
  have cU := exc_U
  have cX := exc_X
  have cD := exc_D
  have cY := exc_Y
  have hyl := exY_len
  have hya := exY_at
  generalize exV.1 = X1 at *
  generalize exU.1 = X2 at *
  generalize exX.1 = X3 at *
  generalize exD.1 = X4 at *
  generalize exY.1 = X5 at *
  generalize newW 2 1 = X0 at *
  have HYL := Lib.hid hyl
  have HYA := Lib.hid hya
  clear hyl hya
  go_enter Try.func15, Try.ntmps15
  have hW : Ext w w := Ext.refl w
  go_wp2_with fail
  refine (hnew).mono ?_
  rintro e w_a ⟨v_, rfl, hVa, hx_⟩
  obtain ⟨aA, aq, ac, aB, ab, aC, ad, rfl⟩ := hVa.form6
  replace hW := hW.trans hx_
  clear hx_
  go_upto_region 2 with (fail)
  have hx_ : Ext w_a (w_a.alloc (.cells #[.int .i64 X0.T, .int .i64 X0.C, .slice aA aq ac, .int .u64 X0.R, .slice aB X0.n ab, .slice aC X0.n ad] 51)) := (Below.refl _ w_a).alloc (Nat.le_refl _) _
  have hba := heap_alloc_new w_a (.cells #[.int .i64 X0.T, .int .i64 X0.C, .slice aA aq ac, .int .u64 X0.R, .slice aB X0.n ab, .slice aC X0.n ad] 51)
  generalize w_a.alloc (.cells #[.int .i64 X0.T, .int .i64 X0.C, .slice aA aq ac, .int .u64 X0.R, .slice aB X0.n ab, .slice aC X0.n ad] 51) = W1 at *
  generalize w_a.heap.size = ga at *
  replace hVa := hVa.ext hx_
  replace hW := hW.trans hx_
  clear hx_
  have z0 : W1.cell? ⟨ga, 0, none⟩ = some (.int .i64 X0.T) := by simp [World.cell?, hba]
  have z1 : W1.cell? ⟨ga, 1, none⟩ = some (.int .i64 X0.C) := by simp [World.cell?, hba]
  have z2 : W1.cell? ⟨ga, 2, none⟩ = some (.slice aA aq ac) := by simp [World.cell?, hba]
  have z3 : W1.cell? ⟨ga, 3, none⟩ = some (.int .u64 X0.R) := by simp [World.cell?, hba]
  have z4 : W1.cell? ⟨ga, 4, none⟩ = some (.slice aB X0.n ab) := by simp [World.cell?, hba]
  have z5 : W1.cell? ⟨ga, 5, none⟩ = some (.slice aC X0.n ad) := by simp [World.cell?, hba]
  go_wp2_with fail
  refine (cV _ _ hVa).mono ?_
  rintro e w_b ⟨v_, rfl, hVb, hx_⟩
  obtain ⟨bA, bq, bc, bB, bb, bC, bd, rfl⟩ := hVb.form6
  clear z0 z1 z2 z3 z4 z5
  replace hba := heap_ext hba hx_
  replace hVa := hVa.ext hx_
  replace hW := hW.trans hx_
  clear hx_
  go_upto_region 3 with (fail)
  obtain ⟨hx_, hbb, hob⟩ := two_boxes7 w_b (.cells #[.int .i64 X1.T, .int .i64 X1.C, .slice bA bq bc, .int .u64 X1.R, .slice bB X1.n bb, .slice bC X1.n bd] 51) (.cells #[.int .i64 0, .bool false, .int .i64 1, .int .u64 0, .slice none 0 0] 37)
  generalize (w_b.alloc (.cells #[.int .i64 X1.T, .int .i64 X1.C, .slice bA bq bc, .int .u64 X1.R, .slice bB X1.n bb, .slice bC X1.n bd] 51)).alloc (.cells #[.int .i64 0, .bool false, .int .i64 1, .int .u64 0, .slice none 0 0] 37) = Wb at *
  generalize w_b.heap.size = gb at *
  replace hba := heap_ext hba hx_
  replace hVa := hVa.ext hx_
  replace hVb := hVb.ext hx_
  replace hW := hW.trans hx_
  clear hx_
  have z0 : Wb.cell? ⟨gb, 0, none⟩ = some (.int .i64 X1.T) := by simp [World.cell?, hbb]
  have z1 : Wb.cell? ⟨gb, 1, none⟩ = some (.int .i64 X1.C) := by simp [World.cell?, hbb]
  have z2 : Wb.cell? ⟨gb, 2, none⟩ = some (.slice bA bq bc) := by simp [World.cell?, hbb]
  have z3 : Wb.cell? ⟨gb, 3, none⟩ = some (.int .u64 X1.R) := by simp [World.cell?, hbb]
  have z4 : Wb.cell? ⟨gb, 4, none⟩ = some (.slice bB X1.n bb) := by simp [World.cell?, hbb]
  have z5 : Wb.cell? ⟨gb, 5, none⟩ = some (.slice bC X1.n bd) := by simp [World.cell?, hbb]
  go_wp2_with fail
  refine (cU _ _ hVb).mono ?_
  rintro e w_c ⟨v_, rfl, hVc, hx_⟩
  obtain ⟨cA, cq, cc, cB, cb, cC, cd, rfl⟩ := hVc.form6
  clear z0 z1 z2 z3 z4 z5
  replace hba := heap_ext hba hx_
  replace hbb := heap_ext hbb hx_
  replace hob := heap_ext hob hx_
  replace hVa := hVa.ext hx_
  replace hVb := hVb.ext hx_
  replace hW := hW.trans hx_
  clear hx_
  go_upto_region 4 with (fail)
  obtain ⟨hx_, hbc, hoc⟩ := two_boxes7 w_c (.cells #[.int .i64 X2.T, .int .i64 X2.C, .slice cA cq cc, .int .u64 X2.R, .slice cB X2.n cb, .slice cC X2.n cd] 51) (.cells #[.int .i64 0, .bool false, .int .i64 0, .int .u64 0, .slice none 0 0] 37)
  generalize (w_c.alloc (.cells #[.int .i64 X2.T, .int .i64 X2.C, .slice cA cq cc, .int .u64 X2.R, .slice cB X2.n cb, .slice cC X2.n cd] 51)).alloc (.cells #[.int .i64 0, .bool false, .int .i64 0, .int .u64 0, .slice none 0 0] 37) = Wc at *
  generalize w_c.heap.size = gc at *
  replace hba := heap_ext hba hx_
  replace hbb := heap_ext hbb hx_
  replace hob := heap_ext hob hx_
  replace hVa := hVa.ext hx_
  replace hVb := hVb.ext hx_
  replace hVc := hVc.ext hx_
  replace hW := hW.trans hx_
  clear hx_
  clear hbb hVb
  have z0 : Wc.cell? ⟨gc, 0, none⟩ = some (.int .i64 X2.T) := by simp [World.cell?, hbc]
  have z1 : Wc.cell? ⟨gc, 1, none⟩ = some (.int .i64 X2.C) := by simp [World.cell?, hbc]
  have z2 : Wc.cell? ⟨gc, 2, none⟩ = some (.slice cA cq cc) := by simp [World.cell?, hbc]
  have z3 : Wc.cell? ⟨gc, 3, none⟩ = some (.int .u64 X2.R) := by simp [World.cell?, hbc]
  have z4 : Wc.cell? ⟨gc, 4, none⟩ = some (.slice cB X2.n cb) := by simp [World.cell?, hbc]
  have z5 : Wc.cell? ⟨gc, 5, none⟩ = some (.slice cC X2.n cd) := by simp [World.cell?, hbc]
  go_wp2_with fail
  refine (cX _ _ hVc).mono ?_
  rintro e w_d ⟨v_, rfl, hVd, hx_⟩
  obtain ⟨dA, dq, dc, dB, db, dC, dd, rfl⟩ := hVd.form6
  clear z0 z1 z2 z3 z4 z5
  replace hba := heap_ext hba hx_
  replace hob := heap_ext hob hx_
  replace hbc := heap_ext hbc hx_
  replace hoc := heap_ext hoc hx_
  replace hVa := hVa.ext hx_
  replace hVc := hVc.ext hx_
  replace hW := hW.trans hx_
  clear hx_
  go_upto_region 5 with (fail)
  obtain ⟨hx_, hbd, hod⟩ := two_boxes7 w_d (.cells #[.int .i64 X3.T, .int .i64 X3.C, .slice dA dq dc, .int .u64 X3.R, .slice dB X3.n db, .slice dC X3.n dd] 51) (.cells #[.int .i64 0, .bool false, .int .i64 1, .int .u64 0, .slice none 0 0] 37)
  generalize (w_d.alloc (.cells #[.int .i64 X3.T, .int .i64 X3.C, .slice dA dq dc, .int .u64 X3.R, .slice dB X3.n db, .slice dC X3.n dd] 51)).alloc (.cells #[.int .i64 0, .bool false, .int .i64 1, .int .u64 0, .slice none 0 0] 37) = Wd at *
  generalize w_d.heap.size = gd at *
  replace hba := heap_ext hba hx_
  replace hob := heap_ext hob hx_
  replace hbc := heap_ext hbc hx_
  replace hoc := heap_ext hoc hx_
  replace hVa := hVa.ext hx_
  replace hVc := hVc.ext hx_
  replace hVd := hVd.ext hx_
  replace hW := hW.trans hx_
  clear hx_
  clear hbc hVc
  have z0 : Wd.cell? ⟨gd, 0, none⟩ = some (.int .i64 X3.T) := by simp [World.cell?, hbd]
  have z1 : Wd.cell? ⟨gd, 1, none⟩ = some (.int .i64 X3.C) := by simp [World.cell?, hbd]
  have z2 : Wd.cell? ⟨gd, 2, none⟩ = some (.slice dA dq dc) := by simp [World.cell?, hbd]
  have z3 : Wd.cell? ⟨gd, 3, none⟩ = some (.int .u64 X3.R) := by simp [World.cell?, hbd]
  have z4 : Wd.cell? ⟨gd, 4, none⟩ = some (.slice dB X3.n db) := by simp [World.cell?, hbd]
  have z5 : Wd.cell? ⟨gd, 5, none⟩ = some (.slice dC X3.n dd) := by simp [World.cell?, hbd]
  go_wp2_with fail
  refine (cD _ _ hVd).mono ?_
  rintro e w_e ⟨v_, rfl, hVe, hx_⟩
  obtain ⟨eA, eq, ec, eB, eb, eC, ed, rfl⟩ := hVe.form6
  clear z0 z1 z2 z3 z4 z5
  replace hba := heap_ext hba hx_
  replace hob := heap_ext hob hx_
  replace hoc := heap_ext hoc hx_
  replace hbd := heap_ext hbd hx_
  replace hod := heap_ext hod hx_
  replace hVa := hVa.ext hx_
  replace hVd := hVd.ext hx_
  replace hW := hW.trans hx_
  clear hx_
  go_upto_region 6 with (fail)
  obtain ⟨hx_, hbe, hoe⟩ := two_boxes7 w_e (.cells #[.int .i64 X4.T, .int .i64 X4.C, .slice eA eq ec, .int .u64 X4.R, .slice eB X4.n eb, .slice eC X4.n ed] 51) (.cells #[.int .i64 0, .bool false, .int .i64 0, .int .u64 0, .slice none 0 0] 37)
  generalize (w_e.alloc (.cells #[.int .i64 X4.T, .int .i64 X4.C, .slice eA eq ec, .int .u64 X4.R, .slice eB X4.n eb, .slice eC X4.n ed] 51)).alloc (.cells #[.int .i64 0, .bool false, .int .i64 0, .int .u64 0, .slice none 0 0] 37) = We at *
  generalize w_e.heap.size = ge at *
  replace hba := heap_ext hba hx_
  replace hob := heap_ext hob hx_
  replace hoc := heap_ext hoc hx_
  replace hbd := heap_ext hbd hx_
  replace hod := heap_ext hod hx_
  replace hVa := hVa.ext hx_
  replace hVd := hVd.ext hx_
  replace hVe := hVe.ext hx_
  replace hW := hW.trans hx_
  clear hx_
  clear hbd hVd
  have z0 : We.cell? ⟨ga, 0, none⟩ = some (.int .i64 X0.T) := by simp [World.cell?, hba]
  have z1 : We.cell? ⟨ga, 1, none⟩ = some (.int .i64 X0.C) := by simp [World.cell?, hba]
  have z2 : We.cell? ⟨ga, 2, none⟩ = some (.slice aA aq ac) := by simp [World.cell?, hba]
  have z3 : We.cell? ⟨ga, 3, none⟩ = some (.int .u64 X0.R) := by simp [World.cell?, hba]
  have z4 : We.cell? ⟨ga, 4, none⟩ = some (.slice aB X0.n ab) := by simp [World.cell?, hba]
  have z5 : We.cell? ⟨ga, 5, none⟩ = some (.slice aC X0.n ad) := by simp [World.cell?, hba]
  go_wp2_with fail
  refine (cY _ _ hVa).mono ?_
  rintro e w_f ⟨v_, rfl, hVf, hx_⟩
  obtain ⟨fA, fq, fc, fB, fb, fC, fd, rfl⟩ := hVf.form6
  clear z0 z1 z2 z3 z4 z5
  replace hba := heap_ext hba hx_
  replace hob := heap_ext hob hx_
  replace hoc := heap_ext hoc hx_
  replace hod := heap_ext hod hx_
  replace hbe := heap_ext hbe hx_
  replace hoe := heap_ext hoe hx_
  replace hVa := hVa.ext hx_
  replace hVe := hVe.ext hx_
  replace hW := hW.trans hx_
  clear hx_
  go_upto_region 7 with (fail)
  obtain ⟨hx_, hbf, hof⟩ := two_boxes7 w_f (.cells #[.int .i64 X5.T, .int .i64 X5.C, .slice fA fq fc, .int .u64 X5.R, .slice fB X5.n fb, .slice fC X5.n fd] 51) (.cells #[.int .i64 0, .bool false, .int .i64 0, .int .u64 0, .slice none 0 0] 37)
  generalize (w_f.alloc (.cells #[.int .i64 X5.T, .int .i64 X5.C, .slice fA fq fc, .int .u64 X5.R, .slice fB X5.n fb, .slice fC X5.n fd] 51)).alloc (.cells #[.int .i64 0, .bool false, .int .i64 0, .int .u64 0, .slice none 0 0] 37) = Wf at *
  generalize w_f.heap.size = gf at *
  replace hba := heap_ext hba hx_
  replace hob := heap_ext hob hx_
  replace hoc := heap_ext hoc hx_
  replace hod := heap_ext hod hx_
  replace hbe := heap_ext hbe hx_
  replace hoe := heap_ext hoe hx_
  replace hVa := hVa.ext hx_
  replace hVe := hVe.ext hx_
  replace hVf := hVf.ext hx_
  replace hW := hW.trans hx_
  clear hx_
  clear hba hVa
  have z0 : Wf.cell? ⟨gf, 0, none⟩ = some (.int .i64 X5.T) := by simp [World.cell?, hbf]
  have z1 : Wf.cell? ⟨gf, 1, none⟩ = some (.int .i64 X5.C) := by simp [World.cell?, hbf]
  have z2 : Wf.cell? ⟨gf, 2, none⟩ = some (.slice fA fq fc) := by simp [World.cell?, hbf]
  have z3 : Wf.cell? ⟨gf, 3, none⟩ = some (.int .u64 X5.R) := by simp [World.cell?, hbf]
  have z4 : Wf.cell? ⟨gf, 4, none⟩ = some (.slice fB X5.n fb) := by simp [World.cell?, hbf]
  have z5 : Wf.cell? ⟨gf, 5, none⟩ = some (.slice fC X5.n fd) := by simp [World.cell?, hbf]
  have b0 : Wf.cell? ⟨gb + 1, 0, none⟩ = some (.int .i64 0) := by simp [World.cell?, hob]
  have b1 : Wf.cell? ⟨gb + 1, 1, none⟩ = some (.bool false) := by simp [World.cell?, hob]
  have b2 : Wf.cell? ⟨gb + 1, 2, none⟩ = some (.int .i64 1) := by simp [World.cell?, hob]
  have b3 : Wf.cell? ⟨gb + 1, 3, none⟩ = some (.int .u64 0) := by simp [World.cell?, hob]
  have b4 : Wf.cell? ⟨gb + 1, 4, none⟩ = some (.slice none 0 0) := by simp [World.cell?, hob]
  have d0 : Wf.cell? ⟨gd + 1, 0, none⟩ = some (.int .i64 0) := by simp [World.cell?, hod]
  have d1 : Wf.cell? ⟨gd + 1, 1, none⟩ = some (.bool false) := by simp [World.cell?, hod]
  have d2 : Wf.cell? ⟨gd + 1, 2, none⟩ = some (.int .i64 1) := by simp [World.cell?, hod]
  have d3 : Wf.cell? ⟨gd + 1, 3, none⟩ = some (.int .u64 0) := by simp [World.cell?, hod]
  have d4 : Wf.cell? ⟨gd + 1, 4, none⟩ = some (.slice none 0 0) := by simp [World.cell?, hod]
  have e0 : Wf.cell? ⟨ge + 1, 0, none⟩ = some (.int .i64 0) := by simp [World.cell?, hoe]
  have e1 : Wf.cell? ⟨ge + 1, 1, none⟩ = some (.bool false) := by simp [World.cell?, hoe]
  have e2 : Wf.cell? ⟨ge + 1, 2, none⟩ = some (.int .i64 0) := by simp [World.cell?, hoe]
  have e3 : Wf.cell? ⟨ge + 1, 3, none⟩ = some (.int .u64 0) := by simp [World.cell?, hoe]
  have e4 : Wf.cell? ⟨ge + 1, 4, none⟩ = some (.slice none 0 0) := by simp [World.cell?, hoe]
  obtain ⟨aY, rfl, hqY, hcY⟩ := hVf.word (by rw [HYL.out]; omega)
  rw [HYL.out] at hqY
  have hc9 := hcY 9 (by omega)
  rw [show (((9 : Nat)) : Int) = 9 from rfl, HYA.out, show aY.add 9 = ⟨aY.block, aY.off + 9, none⟩ from rfl] at hc9
  have hfq : ¬ (fq : Int) < 10 := by omega
  have hfq9 : (9 : Int) < (fq : Int) := by omega
  clear hqY hcY
  go_wp2
  go_ret
  exact ⟨rfl, hW⟩
end Go.Proofs.Ytjokaginolpbeaa

namespace Go.Proofs.Ytjokaginolpbeaa
open Go.RowKit

/-! A cursor follows a tree, or is dead (stopped). -/
def Live {α : Type} (T : PT α) (rs : List Res) (R : PR (List Res) α) (s0 s : Cu) : Prop := s0.stop = false ∧ s.stop = false ∧ s.i ≤ rs.length ∧ s.x = s0.x ∧ T.run (stM Res.n) (rs.drop s.i) = R
def Dead {α : Type} (rs : List Res) (R : PR (List Res) α) (s0 s : Cu) : Prop := s.stop = true ∧ ((s0.stop = true ∧ s = s0) ∨ (s0.stop = false ∧ ∃ x : Ask, R = .stop x ∧ s = ⟨rs.length, true, x.acc⟩))
def Cq {α : Type} (T : PT α) (rs : List Res) (R : PR (List Res) α) (s0 s : Cu) : Prop := Live T rs R s0 s ∨ Dead rs R s0 s
theorem Cq.start {α : Type} (T : PT α) (rs : List Res) (s : Cu) (hi : s.i ≤ rs.length) : Cq T rs (T.run (stM Res.n) (rs.drop s.i)) s s := by
  cases h : s.stop with
  | false => exact .inl ⟨h, h, hi, rfl, rfl⟩
  | true => exact .inr ⟨h, .inl ⟨h, rfl⟩⟩
theorem Cq.le {α : Type} {T : PT α} {rs : List Res} {R : PR (List Res) α} {s0 s : Cu} (h : Cq T rs R s0 s) (h0 : s0.i ≤ rs.length) : s.i ≤ rs.length := by
  rcases h with h | ⟨-, ⟨-, rfl⟩ | ⟨-, x, -, rfl⟩⟩
  · exact h.2.2.1
  · exact h0
  · exact Nat.le_refl _
theorem Cq.step {α : Type} {x : Ask} {k : Int → PT α} {rs : List Res} {R : PR (List Res) α} {s0 s : Cu} (h : Cq (.ask x k) rs R s0 s) (hU : GoodR rs) : U64 (s.told rs).n ∧ Cq (k (s.told rs).n) rs R s0 (s.next rs x.acc) ∧ ((s.next rs x.acc).stop = true → (s.told rs).n = 0) := by
  rcases h with ⟨h1, h2, h3, h4, h5⟩ | ⟨h1, h2⟩
  · cases hd : rs.drop s.i with
    | nil =>
      obtain ⟨e1, e2⟩ := Cu.off (y := x.acc) h2 hd h3
      rw [hd] at h5
      rw [e1, e2]
      exact ⟨u64_zero, .inr ⟨rfl, .inr ⟨h1, x, h5.symm, rfl⟩⟩, fun _ => rfl⟩
    | cons r R1 =>
      obtain ⟨e1, e2, e3⟩ := Cu.on (y := x.acc) h2 hd
      rw [hd] at h5
      rw [e1, e2]
      have hlt : s.i < rs.length := by
        rcases Nat.lt_or_ge s.i rs.length with h' | h'
        · exact h'
        · rw [List.drop_eq_nil_of_le h'] at hd; cases hd
      refine ⟨hU.drop s.i r (by rw [hd]; simp), .inl ⟨h1, rfl, hlt, h4, ?_⟩, fun h => by cases h⟩
      show (k r.n).run (stM Res.n) (rs.drop (s.i + 1)) = R
      rw [e3]; exact h5
  · obtain ⟨e1, e2⟩ := Cu.still (rs := rs) (y := x.acc) h1
    rw [e1, e2]
    exact ⟨u64_zero, .inr ⟨h1, h2⟩, fun _ => rfl⟩
/-- behind a part of its own -/
theorem Cq.call {α β : Type} {T : PT α} {K : α → PT β} {rs : List Res} {R : PR (List Res) β} {s0 s1 s2 : Cu} {a : α} (h : Cq (T.bind K) rs R s0 s1) (hc : Cq (.ret a) rs (T.run (stM Res.n) (rs.drop s1.i)) s1 s2) : Cq (K a) rs R s0 s2 := by
  rcases h with ⟨h1, h2, h3, h4, h5⟩ | ⟨h1, h2⟩
  · rw [PT.run_bind] at h5
    rcases hc with ⟨c1, c2, c3, c4, c5⟩ | ⟨c1, ⟨c2, -⟩ | ⟨c2, x, c3, rfl⟩⟩
    · rw [← c5] at h5
      exact .inl ⟨h1, c2, c3, by rw [c4, h4], h5⟩
    · rw [h2] at c2; cases c2
    · rw [c3] at h5
      exact .inr ⟨rfl, .inr ⟨h1, x, h5.symm, rfl⟩⟩
  · rcases hc with ⟨c1, -⟩ | ⟨c1, ⟨-, rfl⟩ | ⟨c2, -⟩⟩
    · rw [h1] at c1; cases c1
    · exact .inr ⟨h1, h2⟩
    · rw [h1] at c2; cases c2
theorem Cq.fed {α β : Type} {T : PT α} {K : α → PT β} {rs : List Res} {R : PR (List Res) β} {s0 s1 : Cu} (h : Cq (T.bind K) rs R s0 s1) (hR : s0.stop = false → R ≠ .out) : s1.stop = false → T.run (stM Res.n) (rs.drop s1.i) ≠ .out := by
  intro hs
  rcases h with ⟨h1, h2, h3, h4, h5⟩ | ⟨h1, h2⟩
  · intro e
    rw [PT.run_bind, e] at h5
    exact hR h1 h5.symm
  · rw [h1] at hs; cases hs
theorem Cq.dead {α : Type} {T : PT α} {rs : List Res} {R : PR (List Res) α} {s0 s : Cu} (h : Cq T rs R s0 s) (hs : s.stop = true) (T' : PT α) : Cq T' rs R s0 s := by
  rcases h with h | h
  · rw [h.2.1] at hs; cases hs
  · exact .inr h
theorem Cq.out {α : Type} {rs : List Res} {R : PR (List Res) α} {s0 s : Cu} (h : Cq .out rs R s0 s) (hR : s0.stop = false → R ≠ .out) (hs : s.stop = false) : False := by
  rcases h with h | h
  · exact hR h.1 h.2.2.2.2.symm
  · rw [h.1] at hs; cases hs
/-- what a part of the document's answer does with a cursor -/
def RefC {α : Type} (T : PT α) (val : α → Value) (rs : List Res) (s : Cu) (g : Nat) (A : Option Addr) (n c : Nat) (w : World) (e : Ending) (w' : World) : Prop :=
  ∃ (s' : Cu) (a : α), e = .returned (val a) ∧ CurAt w' g A n c s' ∧ ExtB g w w' ∧ Cq (.ret a) rs (T.run (stM Res.n) (rs.drop s.i)) s s'
set_option maxRecDepth 100000 in
theorem cswap_any (i a : Int) (g : Nat) (A : Option Addr) (n c : Nat) (s : Cu) (rs : List Res) (w : World) (hlog : LogV w A n c rs) (hsep : ∀ a, A = some a → 0 < n → a.block ≠ g) (hcur : CurAt w g A n c s) :
    Calls Try.prog 149 #[.pointer (some ⟨g, 0, none⟩), .int .i64 i, .int .u64 a] w fun e w' => e = .returned (.int .u64 (s.told rs).n) ∧ CurAt w' g A n c (s.next rs ⟨4, i, a, 0, none, 0, 0, none, 0, 0⟩) ∧ ExtB g w w' := by
  have hb : ∀ (W : World) (x y z : Int), (Instr.build 33 #[(0, .int .i64 x), (1, .int .i64 y), (2, .int .u64 z)]).run Try.prog W = .ok (.agg #[.int .i64 x, .int .i64 y, .int .u64 z, .int .u64 0, .slice none 0 0, .slice none 0 0]) W := fun _ _ _ _ => by kernel_rfl
  go_enter Try.func149, Try.ntmps149
  go_wp2_with fail
  refine (rdo_any ⟨4, i, a, 0, none, 0, 0, none, 0, 0⟩ g A n c s rs w hlog hsep hcur).mono ?_
  rintro e w1 ⟨rfl, hC, hx⟩
  obtain ⟨rn, rA, rk, rc, rf, hr⟩ : ∃ rn rA rk rc rf, s.told rs = ⟨rn, rA, rk, rc, rf⟩ := ⟨_, _, _, _, _, rfl⟩
  rw [hr]
  simp only
  have HR := Lib.hid hr
  clear hr
  go_upto_region 2 with (fail)
  have hx1 : Ext w1 (w1.alloc (.cells #[.int .u64 rn, .slice rA rk rc, .bool rf] 59)) := (Below.refl _ w1).alloc (Nat.le_refl _) _
  have hR := heap_alloc_new w1 (.cells #[.int .u64 rn, .slice rA rk rc, .bool rf] 59)
  generalize w1.alloc (.cells #[.int .u64 rn, .slice rA rk rc, .bool rf] 59) = w2 at *
  generalize w1.heap.size = gr at *
  have c0 : w2.cell? ⟨gr, 0, none⟩ = some (.int .u64 rn) := by simp [World.cell?, hR]
  go_wp2
  go_ret
  exact ⟨by rw [HR.out]; rfl, hC.ext hx1, hx.trans (.of hx1)⟩
theorem rlimbo_any (e : Int) (h : U64 e) (w : World) : Calls Try.prog 146 #[.int .u64 e] w fun r w' => r = .returned (.int .i64 (limboI e)) ∧ w = w' := by
  have h1 := h.1
  have h2 := h.2
  have e1 : Int.tmod e 3 = e % 3 := by rw [Int.tmod_eq_emod_of_nonneg h1]
  have e2 : IntKind.u64.wrap (e % 3) = e % 3 := by rw [IntKind.wrap_u64]; omega
  have e3 : IntKind.i64.wrap (e % 3) = e % 3 := by rw [IntKind.wrap_i64]; omega
  have e4 : IntKind.i64.wrap (4 + e % 3) = 4 + e % 3 := by rw [IntKind.wrap_i64]; omega
  have e5 : limboI e = 4 + e % 3 := rfl
  generalize limboI e = L at *
  go_enter Try.func146, Try.ntmps146
  go_wp2
  go_ret
  exact ⟨by rw [e5]; rfl, rfl⟩
theorem rpinI_any (i : Int) (h1 : -1 ≤ i) (h2 : i ≤ 100000) (w : World) : Calls Try.prog 64 #[.int .i64 i] w fun r w' => r = .returned (.int .i64 (8 + i)) ∧ w = w' := by
  have e4 : IntKind.i64.wrap (8 + i) = 8 + i := by rw [IntKind.wrap_i64]; omega
  go_enter Try.func64, Try.ntmps64
  go_wp2
  go_ret
  exact ⟨rfl, rfl⟩
set_option maxRecDepth 100000 in
set_option maxHeartbeats 4000000 in
theorem rpin2 (me : Int) (h1 : 0 ≤ me) (h2 : me ≤ 64) (g : Nat) (A : Option Addr) (n c : Nat) (s : Cu) (rs : List Res) (w : World) (hlog : LogV w A n c rs) (hsep : ∀ a, A = some a → 0 < n → a.block ≠ g) (hcur : CurAt w g A n c s) (hi : s.i ≤ rs.length) (hU : GoodR rs) :
    Calls Try.prog 113 #[.pointer (some ⟨g, 0, none⟩), .int .i64 me] w (RefC (pinT me) (fun _ => .tuple #[]) rs s g A n c w) := by
  have hq := Cq.start (pinT me) rs s hi
  have hB := ExtB.refl g w
  have hL := hlog
  unfold RefC
  generalize hR : (pinT me).run (stM Res.n) (rs.drop s.i) = R at *
  have HR := Lib.hid hR
  obtain ⟨s', hC, hq⟩ : ∃ s' : Cu, CurAt w g A n c s' ∧ Cq (pinT me) rs R s s' := ⟨s, hcur, hq⟩
  clear hR hcur hlog
  simp only [pinT] at hq
  go_enter Try.func113, Try.ntmps113
  go_wp2_with fail
  refine (cload_any 3 g A n c s' rs _ hL hsep hC).mono ?_
  rintro e w1 ⟨rfl, hC, hx⟩
  replace hB := hB.trans hx
  replace hL := hL.cur hx hsep
  clear hx
  obtain ⟨hUv1, hq, hzv1⟩ := hq.step hU
  dsimp only [Ask.acc, askL, askS, askC, askX] at hq hzv1
  try simp only [accL, accS, accC] at hC
  generalize (Cu.told rs s').n = v1 at *
  generalize Cu.next rs _ s' = s1 at *
  have hinc : IntKind.u64.wrap (v1 + 1) = incW v1 := IntKind.wrap_u64 _
  generalize incW v1 = v1' at *
  go_wp2_with fail
  refine (rpinI_any me (by omega) (by omega) _).mono ?_
  rintro e w' ⟨rfl, rfl⟩
  go_wp2_with fail
  refine (cstore_any (8 + me) v1' g A n c s1 rs _ hL hsep hC).mono ?_
  rintro e w2 ⟨rfl, hC, hx⟩
  replace hB := hB.trans hx
  replace hL := hL.cur hx hsep
  clear hx
  obtain ⟨hUv2, hq, hzv2⟩ := hq.step hU
  dsimp only [Ask.acc, askL, askS, askC, askX] at hq hzv2
  try simp only [accL, accS, accC] at hC
  generalize (Cu.told rs s1).n = v2 at *
  generalize Cu.next rs _ s1 = s2 at *
  go_wp2
  refine bodyPost_end (v := .tuple #[]) (by simp [results, Try.results113, go_sem]) rfl ?_
  exact ⟨s2, 0, rfl, hC, hB, hq⟩
set_option maxRecDepth 100000 in
set_option maxHeartbeats 4000000 in
theorem runpin2 (me : Int) (h1 : 0 ≤ me) (h2 : me ≤ 64) (g : Nat) (A : Option Addr) (n c : Nat) (s : Cu) (rs : List Res) (w : World) (hlog : LogV w A n c rs) (hsep : ∀ a, A = some a → 0 < n → a.block ≠ g) (hcur : CurAt w g A n c s) (hi : s.i ≤ rs.length) (hU : GoodR rs) :
    Calls Try.prog 114 #[.pointer (some ⟨g, 0, none⟩), .int .i64 me] w (RefC (unpinT me) (fun _ => .tuple #[]) rs s g A n c w) := by
  have hq := Cq.start (unpinT me) rs s hi
  have hB := ExtB.refl g w
  have hL := hlog
  unfold RefC
  generalize hR : (unpinT me).run (stM Res.n) (rs.drop s.i) = R at *
  obtain ⟨s', hC, hq⟩ : ∃ s' : Cu, CurAt w g A n c s' ∧ Cq (unpinT me) rs R s s' := ⟨s, hcur, hq⟩
  clear hR hcur hlog
  simp only [unpinT] at hq
  go_enter Try.func114, Try.ntmps114
  go_wp2_with fail
  refine (rpinI_any me (by omega) (by omega) _).mono ?_
  rintro e w' ⟨rfl, rfl⟩
  go_wp2_with fail
  refine (cstore_any (8 + me) 0 g A n c s' rs _ hL hsep hC).mono ?_
  rintro e w2 ⟨rfl, hC, hx⟩
  replace hB := hB.trans hx
  replace hL := hL.cur hx hsep
  clear hx
  obtain ⟨hUv2, hq, hzv2⟩ := hq.step hU
  dsimp only [Ask.acc, askL, askS, askC, askX] at hq hzv2
  try simp only [accL, accS, accC] at hC
  generalize (Cu.told rs s').n = v2 at *
  generalize Cu.next rs _ s' = s2 at *
  go_wp2
  refine bodyPost_end (v := .tuple #[]) (by simp [results, Try.results114, go_sem]) rfl ?_
  exact ⟨s2, 0, rfl, hC, hB, hq⟩
end Go.Proofs.Ytjokaginolpbeaa

namespace Go.Proofs.Ytjokaginolpbeaa
open Go.RowKit

/-! wealdref12's two loops and wealdref13.Retire. -/
def Cu.m (s : Cu) : Nat := if s.stop then 0 else 65537 - s.i
theorem Cq.stepm {α : Type} {x : Ask} {k : Int → PT α} {rs : List Res} {R : PR (List Res) α} {s0 s : Cu} (h : Cq (.ask x k) rs R s0 s) (hU : GoodR rs) (hsm : rs.length ≤ 65536) : U64 (s.told rs).n ∧ Cq (k (s.told rs).n) rs R s0 (s.next rs x.acc) ∧ (s.next rs x.acc).m ≤ s.m ∧ (s.stop = false → (s.next rs x.acc).m < s.m) := by
  obtain ⟨a, b, -⟩ := h.step hU
  refine ⟨a, b, ?_⟩
  have hi : s.stop = false → s.i ≤ rs.length := fun hs => by
    rcases h with h | h
    · exact h.2.2.1
    · rw [h.1] at hs; cases hs
  cases hs : s.stop with
  | true => rw [(Cu.still (rs := rs) (y := x.acc) hs).2]; exact ⟨Nat.le_refl _, fun h => by cases h⟩
  | false =>
    have := hi hs
    cases hd : rs.drop s.i with
    | nil =>
      rw [(Cu.off (y := x.acc) hs hd this).2]
      simp only [Cu.m, hs, if_true, Bool.false_eq_true, if_false]
      omega
    | cons r R1 =>
      rw [(Cu.on (y := x.acc) hs hd).2.1]
      simp only [Cu.m, hs, Bool.false_eq_true, if_false]
      have : s.i < rs.length := by
        rcases Nat.lt_or_ge s.i rs.length with h' | h'
        · exact h'
        · rw [List.drop_eq_nil_of_le h'] at hd; cases hd
      omega
set_option maxRecDepth 100000 in
set_option maxHeartbeats 4000000 in
theorem rpop2 (t : Int) (f : Nat) (ht1 : 0 ≤ t) (ht2 : t ≤ 64) (g : Nat) (A : Option Addr) (n c : Nat) (s : Cu) (rs : List Res) (w : World) (hlog : LogV w A n c rs) (hsep : ∀ a, A = some a → 0 < n → a.block ≠ g) (hcur : CurAt w g A n c s) (hi : s.i ≤ rs.length) (hU : GoodR rs) (hr : s.stop = false → (popT t f).run (stM Res.n) (rs.drop s.i) ≠ .out) :
    Calls Try.prog 148 #[.pointer (some ⟨g, 0, none⟩), .int .i64 t] w (RefC (popT t f) (fun r => .int .i64 r) rs s g A n c w) := by
  have hq := Cq.start (popT t f) rs s hi
  have hB := ExtB.refl g w
  have hL := hlog
  unfold RefC
  generalize hR : (popT t f).run (stM Res.n) (rs.drop s.i) = R at *
  have HRR := Lib.hid hr
  obtain ⟨s0, hs0⟩ : ∃ s0, s0 = s := ⟨_, rfl⟩
  clear hR hr
  have hC := hcur
  clear hcur hs0
  go_enter Try.func148, Try.ntmps148
  have hsm : rs.length ≤ 65536 := by rw [hL.len]; exact hL.small
  go_wp2
  go_loopw [4] (fun rv wr => ∃ (N : Nat) (s' : Cu), rv = .int .i64 0 ∧ CurAt wr g A n c s' ∧ ExtB g w wr ∧ Cq (popT t N) rs R s s') (fun _ wr => curM g wr)
  case atStart => exact ⟨f, _, rfl, hC, hB, hq⟩
  case round =>
    obtain ⟨N, s', rfl, hC, hB, hq⟩ := hrel
    have hL := hlog.cur hB hsep
    obtain ⟨-, c2⟩ := hC.cells
    have hm : curM g wr = s'.m := hC.m
    cases hst : s'.stop with
    | true =>
      rw [hst] at c2
      clear hm
      go_wp2
      go_ret
      exact ⟨s', 0, rfl, hC, hB, hq.dead hst _⟩
    | false =>
      rw [hst] at c2
      cases N with
      | zero => exact (hq.out HRR.out hst).elim
      | succ N =>
        rw [show popT t (N + 1) = .ask (askL 1) fun w => if firstF w = 0 then .ret 0 else .ask (askL (linkI t (firstF w))) fun n => .ask (askC 1 w (topN (firstF n) w)) fun c => if c = 1 then .ret (firstF w) else popT t N from rfl] at hq
        go_wp2_with fail
        refine (cload_any 1 g A n c s' rs _ hL hsep hC).mono ?_
        rintro e w1 ⟨rfl, hC, hx⟩
        replace hB := hB.trans hx
        replace hL := hL.cur hx hsep
        clear hx
        obtain ⟨hUv1, hq, hmv1⟩ := hq.stepm hU hsm
        dsimp only [Ask.acc, askL, askS, askC, askX] at hq hmv1
        simp only [accL, accS, accC] at hC
        generalize (Cu.told rs s').n = v1 at *
        generalize Cu.next rs _ s' = s1 at *
        clear c2
        obtain ⟨hf0, hf1⟩ := firstF_rng hUv1
        go_wp2_with fail
        refine (rfirst_any _ hUv1 _).mono ?_
        rintro e w' ⟨rfl, rfl⟩
        by_cases h0 : firstF v1 = 0
        · simp only [h0, if_true] at hq
          rw [h0]
          go_wp2
          go_ret
          exact ⟨s1, 0, rfl, hC, hB, hq⟩
        · simp only [h0, if_false] at hq
          go_wp2_with fail
          refine (rfieldB_any t _ ht1 ht2 hf0 (by omega) _).mono ?_
          rintro e w' ⟨rfl, rfl⟩
          go_wp2_with fail
          refine (cload_any _ g A n c s1 rs _ hL hsep hC).mono ?_
          rintro e w2 ⟨rfl, hC, hx⟩
          replace hB := hB.trans hx
          replace hL := hL.cur hx hsep
          clear hx
          obtain ⟨hUv2, hq, hmv2⟩ := hq.stepm hU hsm
          dsimp only [Ask.acc, askL, askS, askC, askX] at hq hmv2
          simp only [accL, accS, accC] at hC
          generalize (Cu.told rs s1).n = v2 at *
          generalize Cu.next rs _ s1 = s2 at *
          obtain ⟨hg0, hg1⟩ := firstF_rng hUv2
          go_wp2_with fail
          refine (rfirst_any _ hUv2 _).mono ?_
          rintro e w' ⟨rfl, rfl⟩
          go_wp2_with fail
          refine (rtag_any _ hUv1 _).mono ?_
          rintro e w' ⟨rfl, rfl⟩
          have htU := tagF_rng hUv1
          have hwr : IntKind.u64.wrap (tagF v1 + 1) = (tagF v1 + 1) % 18446744073709551616 := IntKind.wrap_u64 _
          have htg : U64 ((tagF v1 + 1) % 18446744073709551616) := by unfold U64; omega
          have htn : topF (firstF v2) ((tagF v1 + 1) % 18446744073709551616) = topN (firstF v2) v1 := rfl
          generalize (tagF v1 + 1) % 18446744073709551616 = tg at *
          go_wp2_with fail
          refine (rtop_ref _ _ (by unfold isRef; omega) htg _).mono ?_
          rintro e w' ⟨rfl, rfl⟩
          rw [htn]
          clear hwr htg htn htU
          generalize topN (firstF v2) v1 = tp at *
          go_wp2_with fail
          refine (ccas_any _ _ _ g A n c s2 rs _ hL hsep hC).mono ?_
          rintro e w3 ⟨rfl, hC, hx⟩
          replace hB := hB.trans hx
          replace hL := hL.cur hx hsep
          clear hx
          obtain ⟨hUv3, hq, hmv3⟩ := hq.stepm hU hsm
          dsimp only [Ask.acc, askL, askS, askC, askX] at hq hmv3
          simp only [accL, accS, accC] at hC
          generalize (Cu.told rs s2).n = v3 at *
          generalize Cu.next rs _ s2 = s3 at *
          by_cases h1 : v3 = 1
          · have hb1 : (v3 == 1) = true := by simp [h1]
            simp only [h1, if_true] at hq
            rw [hb1]
            go_wp2
            go_ret
            exact ⟨s3, firstF v1, rfl, hC, hB, hq⟩
          · have hb1 : (v3 == 1) = false := by simp [h1]
            simp only [h1, if_false] at hq
            rw [hb1]
            have hm3 : curM g _ = s3.m := hC.m
            have HMM : s3.m < s'.m := by have a1 := hmv1.2 hst; have a2 := hmv2.1; have a3 := hmv3.1; omega
            clear hb1 h1 hmv1 hmv2 hmv3
            go_wp2
            go_roundw
            case rel => exact ⟨N, s3, rfl, hC, hB, hq⟩
            case measure => rw [hm, hm3]; exact HMM
set_option maxRecDepth 100000 in
set_option maxHeartbeats 4000000 in
theorem rpush2 (t r : Int) (f : Nat) (ht1 : 0 ≤ t) (ht2 : t ≤ 64) (hr1 : 0 ≤ r) (hr2 : r < 1048576) (g : Nat) (A : Option Addr) (n c : Nat) (s : Cu) (rs : List Res) (w : World) (hlog : LogV w A n c rs) (hsep : ∀ a, A = some a → 0 < n → a.block ≠ g) (hcur : CurAt w g A n c s) (hi : s.i ≤ rs.length) (hU : GoodR rs) (hr : s.stop = false → (pushT t r f).run (stM Res.n) (rs.drop s.i) ≠ .out) :
    Calls Try.prog 150 #[.pointer (some ⟨g, 0, none⟩), .int .i64 t, .int .i64 r] w (RefC (pushT t r f) (fun _ => .tuple #[]) rs s g A n c w) := by
  have hq := Cq.start (pushT t r f) rs s hi
  have hB := ExtB.refl g w
  have hL := hlog
  unfold RefC
  generalize hR : (pushT t r f).run (stM Res.n) (rs.drop s.i) = R at *
  have HRR := Lib.hid hr
  obtain ⟨s0, hs0⟩ : ∃ s0, s0 = s := ⟨_, rfl⟩
  clear hR hr
  have hC := hcur
  clear hcur hs0
  go_enter Try.func150, Try.ntmps150
  have hsm : rs.length ≤ 65536 := by rw [hL.len]; exact hL.small
  go_wp2
  go_loopw [7] (fun _ wr => ∃ (N : Nat) (s' : Cu), CurAt wr g A n c s' ∧ ExtB g w wr ∧ Cq (pushT t r N) rs R s s') (fun _ wr => curM g wr)
  case atStart => exact ⟨f, _, hC, hB, hq⟩
  case round =>
    obtain ⟨N, s', hC, hB, hq⟩ := hrel
    have hL := hlog.cur hB hsep
    obtain ⟨-, c2⟩ := hC.cells
    have hm : curM g wr = s'.m := hC.m
    cases hst : s'.stop with
    | true =>
      rw [hst] at c2
      clear hm
      go_wp2
      refine bodyPost_end (v := .tuple #[]) (by simp [results, Try.results150, go_sem]) rfl ?_
      exact ⟨s', 0, rfl, hC, hB, hq.dead hst _⟩
    | false =>
      rw [hst] at c2
      cases N with
      | zero => exact (hq.out HRR.out hst).elim
      | succ N =>
        rw [show pushT t r (N + 1) = .ask (askL 1) fun w => .ask (askS (linkI t r) (firstF w)) fun _ => .ask (askC 1 w (topN r w)) fun c => if c = 1 then .ret 0 else pushT t r N from rfl] at hq
        go_wp2_with fail
        refine (cload_any 1 g A n c s' rs _ hL hsep hC).mono ?_
        rintro e w1 ⟨rfl, hC, hx⟩
        replace hB := hB.trans hx
        replace hL := hL.cur hx hsep
        clear hx
        obtain ⟨hUv1, hq, hmv1⟩ := hq.stepm hU hsm
        dsimp only [Ask.acc, askL, askS, askC, askX] at hq hmv1
        simp only [accL, accS, accC] at hC
        generalize (Cu.told rs s').n = v1 at *
        generalize Cu.next rs _ s' = s1 at *
        clear c2
        obtain ⟨hf0, hf1⟩ := firstF_rng hUv1
        have hw0 : IntKind.u64.wrap (firstF v1) = firstF v1 := by rw [IntKind.wrap_u64]; omega
        go_wp2_with fail
        refine (rfieldB_any t r ht1 ht2 hr1 (by omega) _).mono ?_
        rintro e w' ⟨rfl, rfl⟩
        go_wp2_with fail
        refine (rfirst_any _ hUv1 _).mono ?_
        rintro e w' ⟨rfl, rfl⟩
        go_wp2_with fail
        refine (cstore_any _ _ g A n c s1 rs _ hL hsep hC).mono ?_
        rintro e w2 ⟨rfl, hC, hx⟩
        replace hB := hB.trans hx
        replace hL := hL.cur hx hsep
        clear hx
        obtain ⟨hUv2, hq, hmv2⟩ := hq.stepm hU hsm
        dsimp only [Ask.acc, askL, askS, askC, askX] at hq hmv2
        simp only [accL, accS, accC] at hC
        generalize (Cu.told rs s1).n = v2 at *
        generalize Cu.next rs _ s1 = s2 at *
        clear hw0
        go_wp2_with fail
        refine (rtag_any _ hUv1 _).mono ?_
        rintro e w' ⟨rfl, rfl⟩
        have htU := tagF_rng hUv1
        have hwr : IntKind.u64.wrap (tagF v1 + 1) = (tagF v1 + 1) % 18446744073709551616 := IntKind.wrap_u64 _
        have htg : U64 ((tagF v1 + 1) % 18446744073709551616) := by unfold U64; omega
        have htn : topF (r) ((tagF v1 + 1) % 18446744073709551616) = topN (r) v1 := rfl
        generalize (tagF v1 + 1) % 18446744073709551616 = tg at *
        go_wp2_with fail
        refine (rtop_ref _ _ (by unfold isRef; omega) htg _).mono ?_
        rintro e w' ⟨rfl, rfl⟩
        rw [htn]
        clear hwr htg htn htU
        generalize topN (r) v1 = tp at *
        go_wp2_with fail
        refine (ccas_any _ _ _ g A n c s2 rs _ hL hsep hC).mono ?_
        rintro e w3 ⟨rfl, hC, hx⟩
        replace hB := hB.trans hx
        replace hL := hL.cur hx hsep
        clear hx
        obtain ⟨hUv3, hq, hmv3⟩ := hq.stepm hU hsm
        dsimp only [Ask.acc, askL, askS, askC, askX] at hq hmv3
        simp only [accL, accS, accC] at hC
        generalize (Cu.told rs s2).n = v3 at *
        generalize Cu.next rs _ s2 = s3 at *
        by_cases h1 : v3 = 1
        · have hb1 : (v3 == 1) = true := by simp [h1]
          simp only [h1, if_true] at hq
          rw [hb1]
          go_wp2
          refine bodyPost_ret (v := .tuple #[]) (by simp [results, Try.results150, go_sem]) rfl ?_
          exact ⟨s3, 0, rfl, hC, hB, hq⟩
        · have hb1 : (v3 == 1) = false := by simp [h1]
          simp only [h1, if_false] at hq
          rw [hb1]
          have hm3 : curM g _ = s3.m := hC.m
          have HMM : s3.m < s'.m := by have a1 := hmv1.2 hst; have a2 := hmv2.1; have a3 := hmv3.1; omega
          clear hb1 h1 hmv1 hmv2 hmv3
          go_wp2
          go_roundw
          case rel => exact ⟨N, s3, hC, hB, hq⟩
          case measure => rw [hm, hm3]; exact HMM
set_option maxRecDepth 100000 in
set_option maxHeartbeats 4000000 in
theorem rretire2 (t r : Int) (f : Nat) (ht1 : 0 ≤ t) (ht2 : t ≤ 64) (hr1 : 0 ≤ r) (hr2 : r < 1048576) (g : Nat) (A : Option Addr) (n c : Nat) (s : Cu) (rs : List Res) (w : World) (hlog : LogV w A n c rs) (hsep : ∀ a, A = some a → 0 < n → a.block ≠ g) (hcur : CurAt w g A n c s) (hi : s.i ≤ rs.length) (hU : GoodR rs) (hr : s.stop = false → (retireT t r f).run (stM Res.n) (rs.drop s.i) ≠ .out) :
    Calls Try.prog 115 #[.pointer (some ⟨g, 0, none⟩), .int .i64 t, .int .i64 r] w (RefC (retireT t r f) (fun _ => .tuple #[]) rs s g A n c w) := by
  have hq := Cq.start (retireT t r f) rs s hi
  have hB := ExtB.refl g w
  have hL := hlog
  unfold RefC
  generalize hR : (retireT t r f).run (stM Res.n) (rs.drop s.i) = R at *
  have HRR := Lib.hid hr
  obtain ⟨s', hC, hq⟩ : ∃ s' : Cu, CurAt w g A n c s' ∧ Cq (retireT t r f) rs R s s' := ⟨s, hcur, hq⟩
  clear hR hr hcur
  simp only [retireT] at hq
  go_enter Try.func115, Try.ntmps115
  go_wp2_with fail
  refine (cload_any 3 g A n c s' rs _ hL hsep hC).mono ?_
  rintro e w0 ⟨rfl, hC, hx⟩
  replace hB := hB.trans hx
  replace hL := hL.cur hx hsep
  clear hx
  obtain ⟨hUv0, hq, hzv0⟩ := hq.step hU
  dsimp only [Ask.acc, askL, askS, askC, askX] at hq hzv0
  try simp only [accL, accS, accC] at hC
  generalize (Cu.told rs s').n = v0 at *
  generalize Cu.next rs _ s' = s0 at *

  have hat0 : 0 ≤ limboI v0 := by unfold limboI; omega
  have hsm : rs.length ≤ 65536 := by rw [hL.len]; exact hL.small
  go_wp2
  go_loopw [8] (fun _ wr => ∃ (N : Nat) (s' : Cu), CurAt wr g A n c s' ∧ ExtB g w wr ∧ Cq (retireL t r (limboI v0) N) rs R s s') (fun _ wr => curM g wr)
  case atStart => exact ⟨f, _, hC, hB, hq⟩
  case round =>
    obtain ⟨N, s', hC, hB, hq⟩ := hrel
    have hL := hlog.cur hB hsep
    obtain ⟨-, c2⟩ := hC.cells
    have hm : curM g wr = s'.m := hC.m
    cases hst : s'.stop with
    | true =>
      rw [hst] at c2
      clear hm
      go_wp2
      refine bodyPost_end (v := .tuple #[]) (by simp [results, Try.results115, go_sem]) rfl ?_
      exact ⟨s', 0, rfl, hC, hB, hq.dead hst _⟩
    | false =>
      rw [hst] at c2
      cases N with
      | zero => exact (hq.out HRR.out hst).elim
      | succ N =>
        rw [show retireL t r (limboI v0) (N + 1) = .ask (askL (limboI v0)) fun h => .ask (askS (linkI t r) h) fun _ => .ask (askC (limboI v0) h r) fun c => if c = 1 then .ret 0 else retireL t r (limboI v0) N from rfl] at hq
        go_wp2_with fail
        refine (rlimbo_any _ hUv0 _).mono ?_
        rintro e w' ⟨rfl, rfl⟩
        go_wp2_with fail
        refine (cload_any _ g A n c s' rs _ hL hsep hC).mono ?_
        rintro e w1 ⟨rfl, hC, hx⟩
        replace hB := hB.trans hx
        replace hL := hL.cur hx hsep
        clear hx
        obtain ⟨hUv1, hq, hmv1⟩ := hq.stepm hU hsm
        dsimp only [Ask.acc, askL, askS, askC, askX] at hq hmv1
        simp only [accL, accS, accC] at hC
        generalize (Cu.told rs s').n = v1 at *
        generalize Cu.next rs _ s' = s1 at *
        clear c2
        go_wp2_with fail
        refine (rfieldB_any t r ht1 ht2 hr1 (by omega) _).mono ?_
        rintro e w' ⟨rfl, rfl⟩
        go_wp2_with fail
        refine (cstore_any _ _ g A n c s1 rs _ hL hsep hC).mono ?_
        rintro e w2 ⟨rfl, hC, hx⟩
        replace hB := hB.trans hx
        replace hL := hL.cur hx hsep
        clear hx
        obtain ⟨hUv2, hq, hmv2⟩ := hq.stepm hU hsm
        dsimp only [Ask.acc, askL, askS, askC, askX] at hq hmv2
        simp only [accL, accS, accC] at hC
        generalize (Cu.told rs s1).n = v2 at *
        generalize Cu.next rs _ s1 = s2 at *
        have hw0 : IntKind.u64.wrap r = r := by rw [IntKind.wrap_u64]; omega
        go_wp2_with fail
        refine (rlimbo_any _ hUv0 _).mono ?_
        rintro e w' ⟨rfl, rfl⟩
        go_wp2_with fail
        refine (ccas_any _ _ _ g A n c s2 rs _ hL hsep hC).mono ?_
        rintro e w3 ⟨rfl, hC, hx⟩
        replace hB := hB.trans hx
        replace hL := hL.cur hx hsep
        clear hx
        obtain ⟨hUv3, hq, hmv3⟩ := hq.stepm hU hsm
        dsimp only [Ask.acc, askL, askS, askC, askX] at hq hmv3
        simp only [accL, accS, accC] at hC
        generalize (Cu.told rs s2).n = v3 at *
        generalize Cu.next rs _ s2 = s3 at *
        by_cases h1 : v3 = 1
        · have hb1 : (v3 == 1) = true := by simp [h1]
          simp only [h1, if_true] at hq
          rw [hb1]
          go_wp2
          refine bodyPost_ret (v := .tuple #[]) (by simp [results, Try.results115, go_sem]) rfl ?_
          exact ⟨s3, 0, rfl, hC, hB, hq⟩
        · have hb1 : (v3 == 1) = false := by simp [h1]
          simp only [h1, if_false] at hq
          rw [hb1]
          have hm3 : curM g _ = s3.m := hC.m
          have HMM : s3.m < s'.m := by have a1 := hmv1.2 hst; have a2 := hmv2.1; have a3 := hmv3.1; omega
          clear hb1 h1 hmv1 hmv2 hmv3
          go_wp2
          go_roundw
          case rel => exact ⟨N, s3, hC, hB, hq⟩
          case measure => rw [hm, hm3]; exact HMM
end Go.Proofs.Ytjokaginolpbeaa

namespace Go.Proofs.Ytjokaginolpbeaa
open Go.RowKit

/-! wealdref13.Advance and Alloc on a cursor. -/
theorem PT.bind_bind {α β γ : Type} (G : α → PT β) (H : β → PT γ) : ∀ T : PT α, (T.bind G).bind H = T.bind fun a => (G a).bind H
  | .ret a => rfl
  | .out => rfl
  | .ask x k => by
    simp only [PT.bind]
    congr 1
    funext v
    exact PT.bind_bind G H (k v)
theorem PT.run_less {α β : Type} (num : β → Int) : ∀ (T : PT α) (l l' : List β) (a : α), T.run (stM num) l = .ret a l' → l'.length ≤ l.length
  | .ret a, l, l', b, h => by simp only [PT.run] at h; injection h with _ h; rw [h]; exact Nat.le_refl _
  | .out, l, l', b, h => by simp [PT.run] at h
  | .ask x k, [], l', b, h => by simp [PT.run, stM] at h
  | .ask x k, v :: l, l', b, h => by
    simp only [PT.run, stM] at h
    exact Nat.le_succ_of_le (PT.run_less num (k (num v)) l l' b h)
theorem Cq.ret_m {α : Type} {T : PT α} {a : α} {rs : List Res} {s1 s2 : Cu} (h : Cq (.ret a) rs (T.run (stM Res.n) (rs.drop s1.i)) s1 s2) (hi : s1.i ≤ rs.length) : s2.m ≤ s1.m := by
  rcases h with ⟨h1, h2, h3, -, h5⟩ | ⟨h1, -⟩
  · have := PT.run_less Res.n T _ _ _ h5.symm
    rw [List.length_drop, List.length_drop] at this
    simp only [Cu.m, h1, h2, Bool.false_eq_true, if_false]
    omega
  · simp only [Cu.m, h1, if_true]
    omega
theorem chain1 {β : Type} (t : Int) (f N : Nat) (r : Int) (G : Int → PT β) : (chainT t f (N + 1) r).bind G = if r = 0 then G 0 else .ask (askL (linkI t r)) fun n => (pushT t r f).bind fun _ => (chainT t f N (firstF n)).bind G := by
  rw [show chainT t f (N + 1) r = if r = 0 then .ret 0 else .ask (askL (linkI t r)) fun n => (pushT t r f).bind fun _ => chainT t f N (firstF n) from rfl]
  split
  · rfl
  · simp only [PT.bind, PT.bind_bind]
def advK (t : Int) (f : Nat) (e : Int) (ok : Bool) : PT Bool :=
  if ok then .ask (askC 3 e (incW e)) fun c => if c = 1 then .ask (askX (limboI ((e + 2) % 18446744073709551616)) 0) fun h => (chainT t f f (firstF h)).bind fun _ => .ret true else .ret false else .ret false
set_option maxRecDepth 100000 in
set_option maxHeartbeats 4000000 in
theorem radv2 (t : Int) (f : Nat) (ht1 : 0 ≤ t) (ht2 : t ≤ 64) (g : Nat) (A : Option Addr) (n c : Nat) (s : Cu) (rs : List Res) (w : World) (hlog : LogV w A n c rs) (hsep : ∀ a, A = some a → 0 < n → a.block ≠ g) (hcur : CurAt w g A n c s) (hi : s.i ≤ rs.length) (hU : GoodR rs) (hr : s.stop = false → (advT t f).run (stM Res.n) (rs.drop s.i) ≠ .out) :
    Calls Try.prog 117 #[.pointer (some ⟨g, 0, none⟩), .int .i64 t] w (RefC (advT t f) Value.bool rs s g A n c w) := by
  have hq := Cq.start (advT t f) rs s hi
  have hB := ExtB.refl g w
  have hL := hlog
  unfold RefC
  generalize hR : (advT t f).run (stM Res.n) (rs.drop s.i) = R at *
  have HRR := Lib.hid hr
  have hsm : rs.length ≤ 65536 := by rw [hL.len]; exact hL.small
  obtain ⟨s', hC, hq⟩ : ∃ s' : Cu, CurAt w g A n c s' ∧ Cq (advT t f) rs R s s' := ⟨s, hcur, hq⟩
  clear hR hr hcur
  rw [show advT t f = .ask (askL 3) fun e => (pinsT e t.toNat 0).bind (advK t f e) from rfl] at hq
  go_enter Try.func117, Try.ntmps117
  go_wp2_with fail
  refine (cload_any 3 g A n c s' rs _ hL hsep hC).mono ?_
  rintro e w0 ⟨rfl, hC, hx⟩
  replace hB := hB.trans hx
  replace hL := hL.cur hx hsep
  clear hx
  obtain ⟨hUv0, hq, hzv0⟩ := hq.step hU
  dsimp only [Ask.acc, askL, askS, askC, askX] at hq hzv0
  try simp only [accL, accS, accC] at hC
  generalize (Cu.told rs s').n = v0 at *
  generalize Cu.next rs _ s' = s0 at *
  have hinc : IntKind.u64.wrap (v0 + 1) = incW v0 := IntKind.wrap_u64 _
  generalize hKK : advK t f v0 = KK at hq
  have HKK := Lib.hid hKK
  clear hKK
  generalize hE : incW v0 = v0' at *
  have HE := Lib.hid hE
  clear hE
  go_wp2
  go_loopw [6] (fun iv wr => ∃ (i : Int) (s' : Cu), iv = .int .i64 i ∧ 0 ≤ i ∧ i ≤ t ∧ CurAt wr g A n c s' ∧ ExtB g w wr ∧ Cq ((pinsT v0 (t - i).toNat i).bind KK) rs R s s') (fun iv _ => (t - intOf iv).toNat)
  case atStart => exact ⟨0, s0, rfl, Int.le_refl _, ht1, hC, hB, by rw [Int.sub_zero]; exact hq⟩
  case round =>
    clear hC hB hq hL
    obtain ⟨i, s', rfl, hi0, hit, hC, hB, hq⟩ := hrel
    have hL := hlog.cur hB hsep
    rcases Int.lt_or_le i t with hlt | hle
    · obtain ⟨m, hm⟩ : ∃ m : Nat, (t - i).toNat = m + 1 := ⟨(t - i).toNat - 1, by omega⟩
      rw [hm] at hq
      simp only [pinsT, PT.bind] at hq
      have hwi : IntKind.i64.wrap (i + 1) = i + 1 := by rw [IntKind.wrap_i64]; omega
      have HM := Lib.hid hm
      clear hm
      go_wp2_with fail
      refine (rpinI_any i (by omega) (by omega) _).mono ?_
      rintro e w' ⟨rfl, rfl⟩
      go_wp2_with fail
      refine (cload_any (8 + i) g A n c s' rs _ hL hsep hC).mono ?_
      rintro e w1 ⟨rfl, hC, hx⟩
      replace hB := hB.trans hx
      replace hL := hL.cur hx hsep
      clear hx
      obtain ⟨hUv1, hq, hzv1⟩ := hq.step hU
      dsimp only [Ask.acc, askL, askS, askC, askX] at hq hzv1
      try simp only [accL, accS, accC] at hC
      generalize (Cu.told rs s').n = v1 at *
      generalize Cu.next rs _ s' = s1 at *
      clear hzv1
      by_cases hv : v1 = 0 ∨ v1 = v0'
      · have hv' : v1 = 0 ∨ v1 = incW v0 := by rw [HE.out]; exact hv
        simp only [if_pos hv'] at hq
        have hj : ∃ (i' : Int) (s' : Cu), Value.int .i64 (i + 1) = .int .i64 i' ∧ 0 ≤ i' ∧ i' ≤ t ∧ CurAt w1 g A n c s' ∧ ExtB g w w1 ∧ Cq ((pinsT v0 (t - i').toNat i').bind KK) rs R s s' := ⟨i + 1, s1, rfl, by omega, by omega, hC, hB, by rw [show (t - (i + 1)).toNat = m by have := HM.out; omega]; exact hq⟩
        have hlt2 : (t - (i + 1)).toNat < (t - i).toNat := by have := HM.out; omega
        clear hv' hq
        rcases Decidable.em (v1 = 0) with hv0 | hv0
        · have hb1 : (v1 != 0) = false := by simp [hv0]
          clear hv hv0
          go_wp2
          go_roundw
          case rel => exact hj
          case measure => simpa [intOf] using hlt2
        · have hb1 : (v1 != 0) = true := by simp [hv0]
          have hb2 : (v1 != v0') = false := by simp [hv.resolve_left hv0]
          clear hv hv0
          go_wp2
          go_roundw
          case rel => exact hj
          case measure => simpa [intOf] using hlt2
      · have hv' : ¬ (v1 = 0 ∨ v1 = incW v0) := by rw [HE.out]; exact hv
        simp only [if_neg hv', PT.bind] at hq
        have hv1 : ¬ v1 = 0 := fun h => hv (.inl h)
        have hv2 : ¬ v1 = v0' := fun h => hv (.inr h)
        rw [← HKK.out] at hq
        rw [show advK t f v0 false = .ret false from rfl] at hq
        clear hv hv'
        have hb1 : (v1 != 0) = true := by simp [hv1]
        have hb2 : (v1 != v0') = true := by simp [hv2]
        go_wp2
        go_ret
        exact ⟨s1, false, rfl, hC, hB, hq⟩
    · obtain rfl : t = i := by omega
      rw [show (t - t).toNat = 0 by omega] at hq
      simp only [pinsT, PT.bind] at hq
      rw [← HKK.out] at hq
      simp only [advK, if_true] at hq
      have hn : ¬ t < t := by omega
      rw [HE.out] at hq
      go_wp2_with fail
      refine (ccas_any 3 v0 v0' g A n c s' rs _ hL hsep hC).mono ?_
      rintro e w2 ⟨rfl, hC, hx⟩
      replace hB := hB.trans hx
      replace hL := hL.cur hx hsep
      clear hx
      obtain ⟨hUv2, hq, hzv2⟩ := hq.step hU
      dsimp only [Ask.acc, askL, askS, askC, askX] at hq hzv2
      try simp only [accL, accS, accC] at hC
      generalize (Cu.told rs s').n = v2 at *
      generalize Cu.next rs _ s' = s2 at *
      clear hzv2
      by_cases h1 : v2 = 1
      · have hb1 : (v2 == 1) = true := by simp [h1]
        simp only [h1, if_true] at hq
        rw [hb1]
        have hw2 : IntKind.u64.wrap (v0 + 2) = (v0 + 2) % 18446744073709551616 := IntKind.wrap_u64 _
        have hU2 : U64 ((v0 + 2) % 18446744073709551616) := by unfold U64; omega
        generalize (v0 + 2) % 18446744073709551616 = e2 at *
        clear h1 hb1 hUv2
        go_wp2_with fail
        refine (rlimbo_any _ hU2 _).mono ?_
        rintro e w' ⟨rfl, rfl⟩
        go_wp2_with fail
        refine (cswap_any (limboI e2) 0 g A n c s2 rs _ hL hsep hC).mono ?_
        rintro e w3 ⟨rfl, hC, hx⟩
        replace hB := hB.trans hx
        replace hL := hL.cur hx hsep
        clear hx
        obtain ⟨hUv3, hq, hzv3⟩ := hq.step hU
        dsimp only [Ask.acc, askL, askS, askC, askX] at hq hzv3
        try simp only [accL, accS, accC] at hC
        generalize (Cu.told rs s2).n = v3 at *
        generalize Cu.next rs _ s2 = s3 at *
        clear hzv3
        obtain ⟨hf0, hf1⟩ := firstF_rng hUv3
        go_wp2_with fail
        refine (rfirst_any _ hUv3 _).mono ?_
        rintro e w' ⟨rfl, rfl⟩
        generalize firstF v3 = r0 at *
        go_wp2
        go_loopw [9] (fun rv wr => ∃ (N : Nat) (r : Int) (s' : Cu), rv = .int .i64 r ∧ 0 ≤ r ∧ r < 1048576 ∧ CurAt wr g A n c s' ∧ ExtB g w wr ∧ Cq ((chainT t f N r).bind fun _ => .ret true) rs R s s') (fun _ wr => curM g wr)
        case atStart => exact ⟨f, r0, s3, rfl, hf0, hf1, hC, hB, hq⟩
        case round =>
          clear hC hB hq hL
          obtain ⟨N, r, s', rfl, hr0, hr1, hC, hB, hq⟩ := hrel
          have hL := hlog.cur hB hsep
          obtain ⟨-, c2⟩ := hC.cells
          have hm : curM g wr = s'.m := hC.m
          cases hst : s'.stop with
          | true =>
            rw [hst] at c2
            have hq' := hq.dead hst (.ret true)
            clear hm hq
            by_cases hz : r = 0
            · have hzb : (r != 0) = false := by simp [hz]
              clear hz
              go_wp2
              go_ret
              exact ⟨s', true, rfl, hC, hB, hq'⟩
            · have hzb : (r != 0) = true := by simp [hz]
              go_wp2
              go_ret
              exact ⟨s', true, rfl, hC, hB, hq'⟩
          | false =>
            rw [hst] at c2
            cases N with
            | zero => exact (Cq.out (α := Bool) hq HRR.out hst).elim
            | succ N =>
              rw [chain1] at hq
              by_cases hz : r = 0
              · have hzb : (r != 0) = false := by simp [hz]
                simp only [if_pos hz] at hq
                clear hz hm
                go_wp2
                go_ret
                exact ⟨s', true, rfl, hC, hB, hq⟩
              · have hzb : (r != 0) = true := by simp [hz]
                simp only [if_neg hz] at hq
                go_wp2_with fail
                refine (rfieldB_any t r ht1 ht2 hr0 (by omega) _).mono ?_
                rintro e w' ⟨rfl, rfl⟩
                go_wp2_with fail
                refine (cload_any _ g A n c s' rs _ hL hsep hC).mono ?_
                rintro e w4 ⟨rfl, hC, hx⟩
                replace hB := hB.trans hx
                replace hL := hL.cur hx hsep
                clear hx
                obtain ⟨hUv4, hq, hmv4⟩ := hq.stepm hU hsm
                dsimp only [Ask.acc, askL, askS, askC, askX] at hq hmv4
                simp only [accL, accS, accC] at hC
                generalize (Cu.told rs s').n = v4 at *
                generalize Cu.next rs _ s' = s4 at *
                clear c2
                obtain ⟨hk0, hk1⟩ := firstF_rng hUv4
                go_wp2_with fail
                refine (rpush2 t r f ht1 ht2 hr0 hr1 g A n c s4 rs _ hL hsep hC (hq.le hi) hU (hq.fed HRR.out)).mono ?_
                rintro e w5 ⟨s5, a, rfl, hC5, hx, hc⟩
                replace hB := hB.trans hx
                replace hL := hL.cur hx hsep
                clear hx
                have hm5 := hc.ret_m (hq.le hi)
                replace hq := hq.call hc
                clear hc hC
                go_wp2_with fail
                refine (rfirst_any _ hUv4 _).mono ?_
                rintro e w' ⟨rfl, rfl⟩
                have hj : ∃ (N : Nat) (r : Int) (s' : Cu), Value.int .i64 (firstF v4) = .int .i64 r ∧ 0 ≤ r ∧ r < 1048576 ∧ CurAt w5 g A n c s' ∧ ExtB g w w5 ∧ Cq ((chainT t f N r).bind fun _ => .ret true) rs R s s' := ⟨N, _, s5, rfl, hk0, hk1, hC5, hB, hq⟩
                have hm6 : curM g w5 = s5.m := hC5.m
                have hlt : s5.m < s'.m := by have := hmv4.2 hst; omega
                clear hmv4 hm5
                go_wp2
                go_roundw
                case rel => exact hj
                case measure => rw [hm, hm6]; exact hlt
      · have hb1 : (v2 == 1) = false := by simp [h1]
        simp only [h1, if_false] at hq
        rw [hb1]
        go_wp2
        go_ret
        exact ⟨s2, false, rfl, hC, hB, hq⟩
set_option maxRecDepth 100000 in
set_option maxHeartbeats 4000000 in
theorem ralloc2 (t me : Int) (f : Nat) (ht1 : 0 ≤ t) (ht2 : t ≤ 64) (hm1 : 0 ≤ me) (hm2 : me ≤ 64) (g : Nat) (A : Option Addr) (n c : Nat) (s : Cu) (rs : List Res) (w : World) (hlog : LogV w A n c rs) (hsep : ∀ a, A = some a → 0 < n → a.block ≠ g) (hcur : CurAt w g A n c s) (hi : s.i ≤ rs.length) (hU : GoodR rs) (hr : s.stop = false → (allocT t me f).run (stM Res.n) (rs.drop s.i) ≠ .out) :
    Calls Try.prog 116 #[.pointer (some ⟨g, 0, none⟩), .int .i64 t, .int .i64 me] w (RefC (allocT t me f) (fun r => .int .i64 r) rs s g A n c w) := by
  have hq := Cq.start (allocT t me f) rs s hi
  have hB := ExtB.refl g w
  have hL := hlog
  unfold RefC
  generalize hR : (allocT t me f).run (stM Res.n) (rs.drop s.i) = R at *
  have HRR := Lib.hid hr
  obtain ⟨s', hC, hq⟩ : ∃ s' : Cu, CurAt w g A n c s' ∧ Cq ((popT t f).bind fun r => allocL t me f 3 r) rs R s s' := ⟨s, hcur, hq⟩
  clear hR hr hcur
  go_enter Try.func116, Try.ntmps116
  go_wp2_with fail
  refine (rpop2 t f ht1 ht2 g A n c s' rs _ hL hsep hC (hq.le hi) hU (hq.fed HRR.out)).mono ?_
  rintro e w0 ⟨s0, r0, rfl, hC, hx, hc⟩
  replace hB := hB.trans hx
  replace hL := hL.cur hx hsep
  clear hx
  replace hq := hq.call hc
  clear hc
  go_wp2
  go_loopw [7, 8] (fun rv iv wr => ∃ (m : Nat) (r : Int) (s' : Cu), rv = .int .i64 r ∧ iv = .int .i64 (3 - (m : Int)) ∧ m ≤ 3 ∧ CurAt wr g A n c s' ∧ ExtB g w wr ∧ Cq (allocL t me f m r) rs R s s') (fun _ iv _ => (3 - intOf iv).toNat)
  case atStart => exact ⟨3, r0, s0, rfl, rfl, Nat.le_refl _, hC, hB, hq⟩
  case round =>
    clear hC hB hq hL
    obtain ⟨m, r, s', rfl, rfl, hm, hC, hB, hq⟩ := hrel
    have hL := hlog.cur hB hsep
    rcases m with _ | m
    · simp only [allocL] at hq
      have hlt : ¬ (3 - ((0 : Nat) : Int)) < 3 := by omega
      go_wp2
      go_ret
      exact ⟨s', r, rfl, hC, hB, hq⟩
    · have hlt : (3 - ((m + 1 : Nat) : Int)) < 3 := by omega
      have hwi : IntKind.i64.wrap (3 - ((m + 1 : Nat) : Int) + 1) = 3 - (m : Int) := by rw [IntKind.wrap_i64]; omega
      have hms : (3 - (3 - (m : Int))).toNat < (3 - (3 - ((m + 1 : Nat) : Int))).toNat := by omega
      rw [show allocL t me f (m + 1) r = if r = 0 then (pinT me).bind fun _ => (advT t f).bind fun _ => (popT t f).bind fun r' => allocL t me f m r' else .ret r from rfl] at hq
      have HM := Lib.hid hm
      clear hm
      generalize hI : (3 - ((m + 1 : Nat) : Int)) = i3 at *
      generalize hI2 : (3 - (m : Int)) = i2 at *
      clear hI
      have HI2 := Lib.hid hI2
      clear hI2
      by_cases hz : r = 0
      · have hzb : (r != 0) = false := by simp [hz]
        simp only [if_pos hz] at hq
        clear hz
        go_wp2_with fail
        refine (rpin2 me hm1 hm2 g A n c s' rs _ hL hsep hC (hq.le hi) hU).mono ?_
        rintro e w1 ⟨s1, a1, rfl, hC, hx, hc⟩
        replace hB := hB.trans hx
        replace hL := hL.cur hx hsep
        clear hx
        replace hq := hq.call hc
        clear hc
        go_wp2_with fail
        refine (radv2 t f ht1 ht2 g A n c s1 rs _ hL hsep hC (hq.le hi) hU (hq.fed HRR.out)).mono ?_
        rintro e w2 ⟨s2, a2, rfl, hC, hx, hc⟩
        replace hB := hB.trans hx
        replace hL := hL.cur hx hsep
        clear hx
        replace hq := hq.call hc
        clear hc
        go_wp2_with fail
        refine (rpop2 t f ht1 ht2 g A n c s2 rs _ hL hsep hC (hq.le hi) hU (hq.fed HRR.out)).mono ?_
        rintro e w3 ⟨s3, r3, rfl, hC, hx, hc⟩
        replace hB := hB.trans hx
        replace hL := hL.cur hx hsep
        clear hx
        replace hq := hq.call hc
        clear hc
        have hj : ∃ (m : Nat) (r : Int) (s' : Cu), Value.int .i64 r3 = .int .i64 r ∧ Value.int .i64 i2 = .int .i64 (3 - (m : Int)) ∧ m ≤ 3 ∧ CurAt w3 g A n c s' ∧ ExtB g w w3 ∧ Cq (allocL t me f m r) rs R s s' := ⟨m, r3, s3, rfl, by rw [HI2.out], by have := HM.out; omega, hC, hB, hq⟩
        clear hzb hq hC hL hB
        go_wp2
        go_roundw
        case rel => exact hj
        case measure => simpa [intOf] using hms
      · have hzb : (r != 0) = true := by simp [hz]
        simp only [if_neg hz] at hq
        go_wp2
        go_ret
        exact ⟨s', r, rfl, hC, hB, hq⟩
end Go.Proofs.Ytjokaginolpbeaa

namespace Go.Proofs.Ytjokaginolpbeaa
open Go.RowKit

end Go.Proofs.Ytjokaginolpbeaa

namespace Go.Proofs.Ytjokaginolpbeaa
open Go.RowKit

set_option maxRecDepth 100000 in
set_option maxHeartbeats 4000000 in
/-- what is asked next, or the answer -/
theorem told_any (g : Nat) (A : Option Addr) (n c : Nat) (s : Cu) (o : OutN) (w : World) (hcur : CurAt w g A n c s) :
    Calls Try.prog 118 #[.pointer (some ⟨g, 0, none⟩), .agg o.cells] w fun e w' =>
      e = .returned (.tuple #[.agg (if s.stop then s.x else Acc.zero).cells, .agg (if s.stop then ⟨0, false, 0, 0⟩ else o).cells, .bool (!s.stop)]) ∧ Ext w w' := by
  obtain ⟨i, stop, ⟨x0, x1, x2, x3, x4, x5, x6, x7, x8, x9⟩⟩ := s
  obtain ⟨o0, o1, o2, o3⟩ := o
  have hb0 : ∀ W : World, (Instr.build 37 #[]).run Try.prog W = .ok (.agg #[.int .i64 0, .bool false, .int .i64 0, .int .u64 0, .slice none 0 0]) W := fun _ => by kernel_rfl
  have hb1 : ∀ W : World, (Instr.build 33 #[]).run Try.prog W = .ok (.agg #[.int .i64 0, .int .i64 0, .int .u64 0, .int .u64 0, .slice none 0 0, .slice none 0 0]) W := fun _ => by kernel_rfl
  have hcg : g < w.heap.size := (Array.getElem?_eq_some_iff.1 hcur).1
  simp only [Acc.cells, OutN.cells]
  go_enter Try.func118, Try.ntmps118
  go_upto_region 1 with (fail)
  obtain ⟨hW, hsz, hL, hE, hO⟩ := three_boxes w (.cells #[.int .i64 o0, .bool o1, .int .i64 o2, .int .u64 o3, .slice none 0 0] 37) (.cells #[.int .i64 0, .int .i64 0, .int .u64 0, .int .u64 0, .slice none 0 0, .slice none 0 0] 33) (.cells #[.int .i64 0, .bool false, .int .i64 0, .int .u64 0, .slice none 0 0] 37)
  generalize ((w.alloc (.cells #[.int .i64 o0, .bool o1, .int .i64 o2, .int .u64 o3, .slice none 0 0] 37)).alloc (.cells #[.int .i64 0, .int .i64 0, .int .u64 0, .int .u64 0, .slice none 0 0, .slice none 0 0] 33)).alloc (.cells #[.int .i64 0, .bool false, .int .i64 0, .int .u64 0, .slice none 0 0] 37) = W at *
  have hcw : W.heap[g]? = some (.cells #[.slice A n c, .int .i64 i, .bool stop, .int .i64 x0, .int .i64 x1, .int .u64 x2, .int .u64 x3, .slice x4 x5 x6, .slice x7 x8 x9] 142 (0, 0)) := heap_ext hcur hW
  have c0 : W.cell? ⟨g, 0, none⟩ = some (.slice A n c) := by simp [World.cell?, hcw]
  have c1 : W.cell? ⟨g, 1, none⟩ = some (.int .i64 i) := by simp [World.cell?, hcw]
  have c2 : W.cell? ⟨g, 2, none⟩ = some (.bool stop) := by simp [World.cell?, hcw]
  have c3 : W.cell? ⟨g, 3, none⟩ = some (.int .i64 x0) := by simp [World.cell?, hcw]
  have c4 : W.cell? ⟨g, 4, none⟩ = some (.int .i64 x1) := by simp [World.cell?, hcw]
  have c5 : W.cell? ⟨g, 5, none⟩ = some (.int .u64 x2) := by simp [World.cell?, hcw]
  have c6 : W.cell? ⟨g, 6, none⟩ = some (.int .u64 x3) := by simp [World.cell?, hcw]
  have c7 : W.cell? ⟨g, 7, none⟩ = some (.slice x4 x5 x6) := by simp [World.cell?, hcw]
  have c8 : W.cell? ⟨g, 8, none⟩ = some (.slice x7 x8 x9) := by simp [World.cell?, hcw]
  cases stop with
  | true =>
    have e0 : W.cell? ⟨w.heap.size + 1, 0, none⟩ = some (.int .i64 0) := by simp [World.cell?, hE]
    have ef0 : W.frozen? ⟨w.heap.size + 1, 0, none⟩ = false := by simp [World.frozen?, hE]
    have e1 : W.cell? ⟨w.heap.size + 1, 1, none⟩ = some (.int .i64 0) := by simp [World.cell?, hE]
    have ef1 : W.frozen? ⟨w.heap.size + 1, 1, none⟩ = false := by simp [World.frozen?, hE]
    have e2 : W.cell? ⟨w.heap.size + 1, 2, none⟩ = some (.int .u64 0) := by simp [World.cell?, hE]
    have ef2 : W.frozen? ⟨w.heap.size + 1, 2, none⟩ = false := by simp [World.frozen?, hE]
    have e3 : W.cell? ⟨w.heap.size + 1, 3, none⟩ = some (.int .u64 0) := by simp [World.cell?, hE]
    have ef3 : W.frozen? ⟨w.heap.size + 1, 3, none⟩ = false := by simp [World.frozen?, hE]
    have e4 : W.cell? ⟨w.heap.size + 1, 4, none⟩ = some (.slice none 0 0) := by simp [World.cell?, hE]
    have ef4 : W.frozen? ⟨w.heap.size + 1, 4, none⟩ = false := by simp [World.frozen?, hE]
    have e5 : W.cell? ⟨w.heap.size + 1, 5, none⟩ = some (.slice none 0 0) := by simp [World.cell?, hE]
    have ef5 : W.frozen? ⟨w.heap.size + 1, 5, none⟩ = false := by simp [World.frozen?, hE]
    have d0 : W.cell? ⟨w.heap.size + 1 + 1, 0, none⟩ = some (.int .i64 0) := by simp [World.cell?, hO]
    have df0 : W.frozen? ⟨w.heap.size + 1 + 1, 0, none⟩ = false := by simp [World.frozen?, hO]
    have d1 : W.cell? ⟨w.heap.size + 1 + 1, 1, none⟩ = some (.bool false) := by simp [World.cell?, hO]
    have df1 : W.frozen? ⟨w.heap.size + 1 + 1, 1, none⟩ = false := by simp [World.frozen?, hO]
    have d2 : W.cell? ⟨w.heap.size + 1 + 1, 2, none⟩ = some (.int .i64 0) := by simp [World.cell?, hO]
    have df2 : W.frozen? ⟨w.heap.size + 1 + 1, 2, none⟩ = false := by simp [World.frozen?, hO]
    have d3 : W.cell? ⟨w.heap.size + 1 + 1, 3, none⟩ = some (.int .u64 0) := by simp [World.cell?, hO]
    have df3 : W.frozen? ⟨w.heap.size + 1 + 1, 3, none⟩ = false := by simp [World.frozen?, hO]
    have d4 : W.cell? ⟨w.heap.size + 1 + 1, 4, none⟩ = some (.slice none 0 0) := by simp [World.cell?, hO]
    have df4 : W.frozen? ⟨w.heap.size + 1 + 1, 4, none⟩ = false := by simp [World.frozen?, hO]
    clear hcw hE hO hL hcur
    go_wp2
    refine bodyPost_ret (v := .tuple #[.agg #[.int .i64 x0, .int .i64 x1, .int .u64 x2, .int .u64 x3, .slice x4 x5 x6, .slice x7 x8 x9], .agg #[.int .i64 0, .bool false, .int .i64 0, .int .u64 0, .slice none 0 0], .bool false]) (by simp [results, Try.results118, go_sem, e0, e1, e2, e3, e4, e5, d0, d1, d2, d3, d4]) rfl ⟨by simp, ?_⟩
    exact setAll_ext (g := w.heap.size + 1 + 1) (vs := [.int .i64 0, .bool false, .int .i64 0, .int .u64 0, .slice none 0 0]) (i := 0) (setAll_ext (g := w.heap.size + 1) (vs := [.int .i64 x0, .int .i64 x1, .int .u64 x2, .int .u64 x3, .slice x4 x5 x6, .slice x7 x8 x9]) (i := 0) hW (by omega)) (by omega)
  | false =>
    go_upto_region 3 with (fail)
    have b0 : W.cell? ⟨w.heap.size, 0, none⟩ = some (.int .i64 o0) := by simp [World.cell?, hL]
    have b1 : W.cell? ⟨w.heap.size, 1, none⟩ = some (.bool o1) := by simp [World.cell?, hL]
    have b2 : W.cell? ⟨w.heap.size, 2, none⟩ = some (.int .i64 o2) := by simp [World.cell?, hL]
    have b3 : W.cell? ⟨w.heap.size, 3, none⟩ = some (.int .u64 o3) := by simp [World.cell?, hL]
    have b4 : W.cell? ⟨w.heap.size, 4, none⟩ = some (.slice none 0 0) := by simp [World.cell?, hL]
    have e0 : W.cell? ⟨w.heap.size + 1, 0, none⟩ = some (.int .i64 0) := by simp [World.cell?, hE]
    have ef0 : W.frozen? ⟨w.heap.size + 1, 0, none⟩ = false := by simp [World.frozen?, hE]
    have e1 : W.cell? ⟨w.heap.size + 1, 1, none⟩ = some (.int .i64 0) := by simp [World.cell?, hE]
    have ef1 : W.frozen? ⟨w.heap.size + 1, 1, none⟩ = false := by simp [World.frozen?, hE]
    have e2 : W.cell? ⟨w.heap.size + 1, 2, none⟩ = some (.int .u64 0) := by simp [World.cell?, hE]
    have ef2 : W.frozen? ⟨w.heap.size + 1, 2, none⟩ = false := by simp [World.frozen?, hE]
    have e3 : W.cell? ⟨w.heap.size + 1, 3, none⟩ = some (.int .u64 0) := by simp [World.cell?, hE]
    have ef3 : W.frozen? ⟨w.heap.size + 1, 3, none⟩ = false := by simp [World.frozen?, hE]
    have e4 : W.cell? ⟨w.heap.size + 1, 4, none⟩ = some (.slice none 0 0) := by simp [World.cell?, hE]
    have ef4 : W.frozen? ⟨w.heap.size + 1, 4, none⟩ = false := by simp [World.frozen?, hE]
    have e5 : W.cell? ⟨w.heap.size + 1, 5, none⟩ = some (.slice none 0 0) := by simp [World.cell?, hE]
    have ef5 : W.frozen? ⟨w.heap.size + 1, 5, none⟩ = false := by simp [World.frozen?, hE]
    have d0 : W.cell? ⟨w.heap.size + 1 + 1, 0, none⟩ = some (.int .i64 0) := by simp [World.cell?, hO]
    have df0 : W.frozen? ⟨w.heap.size + 1 + 1, 0, none⟩ = false := by simp [World.frozen?, hO]
    have d1 : W.cell? ⟨w.heap.size + 1 + 1, 1, none⟩ = some (.bool false) := by simp [World.cell?, hO]
    have df1 : W.frozen? ⟨w.heap.size + 1 + 1, 1, none⟩ = false := by simp [World.frozen?, hO]
    have d2 : W.cell? ⟨w.heap.size + 1 + 1, 2, none⟩ = some (.int .i64 0) := by simp [World.cell?, hO]
    have df2 : W.frozen? ⟨w.heap.size + 1 + 1, 2, none⟩ = false := by simp [World.frozen?, hO]
    have d3 : W.cell? ⟨w.heap.size + 1 + 1, 3, none⟩ = some (.int .u64 0) := by simp [World.cell?, hO]
    have df3 : W.frozen? ⟨w.heap.size + 1 + 1, 3, none⟩ = false := by simp [World.frozen?, hO]
    have d4 : W.cell? ⟨w.heap.size + 1 + 1, 4, none⟩ = some (.slice none 0 0) := by simp [World.cell?, hO]
    have df4 : W.frozen? ⟨w.heap.size + 1 + 1, 4, none⟩ = false := by simp [World.frozen?, hO]
    clear hcw hcur c0 c1 c2 c3 c4 c5 c6 c7 c8 hL hE hO
    go_region
    all_goals
      go_wp2
      refine bodyPost_ret (v := .tuple #[.agg #[.int .i64 0, .int .i64 0, .int .u64 0, .int .u64 0, .slice none 0 0, .slice none 0 0], .agg #[.int .i64 o0, .bool o1, .int .i64 o2, .int .u64 o3, .slice none 0 0], .bool true]) (by simp [results, Try.results118, go_sem, e0, e1, e2, e3, e4, e5, d0, d1, d2, d3, d4]) rfl ⟨by simp [Acc.zero], ?_⟩
      refine Ext.trans ?_ (Ext.refl _).drawn
      exact setAll_ext (g := w.heap.size + 1 + 1) (vs := [.int .i64 o0, .bool o1, .int .i64 o2, .int .u64 o3, .slice none 0 0]) (i := 0) (setAll_ext (g := w.heap.size + 1) (vs := [.int .i64 0, .int .i64 0, .int .u64 0, .int .u64 0, .slice none 0 0, .slice none 0 0]) (i := 0) hW (by omega)) (by omega)
/-- a log gone through by a row of accesses -/
def Cu.at (rs : List Res) (l : List Acc) (j : Nat) : Cu := if j ≤ rs.length then ⟨j, false, Acc.zero⟩ else ⟨rs.length, true, (l[rs.length]?).getD Acc.zero⟩
theorem LogV.low {w : World} {a : Addr} {n c : Nat} {rs : List Res} (h : LogV w (some a) n c rs) (hn : 0 < n) : a.block < w.heap.size := by
  obtain ⟨b, hb, hc⟩ := h.at_ 0 (rs[0]'(by rw [h.len]; exact hn)) (List.getElem?_eq_getElem _)
  obtain rfl : a = b := Option.some.inj hb
  have := lt_of_cell hc.1
  rwa [add_block] at this
end Go.Proofs.Ytjokaginolpbeaa

namespace Go.Proofs.Ytjokaginolpbeaa
open Go.RowKit

/-! Five boxes. -/
theorem boxes5n (w : World) (o0 o1 o2 o3 o4 : Obj) :
    Ext w (((((w.alloc o0).alloc o1).alloc o2).alloc o3).alloc o4) ∧ (((((w.alloc o0).alloc o1).alloc o2).alloc o3).alloc o4).heap[w.heap.size]? = some o0 ∧ (((((w.alloc o0).alloc o1).alloc o2).alloc o3).alloc o4).heap[w.heap.size + 1]? = some o1 ∧
      (((((w.alloc o0).alloc o1).alloc o2).alloc o3).alloc o4).heap[w.heap.size + 1 + 1]? = some o2 ∧ (((((w.alloc o0).alloc o1).alloc o2).alloc o3).alloc o4).heap[w.heap.size + 1 + 1 + 1]? = some o3 ∧ (((((w.alloc o0).alloc o1).alloc o2).alloc o3).alloc o4).heap[w.heap.size + 1 + 1 + 1 + 1]? = some o4 := by
  obtain ⟨h, h0, h1, h2, h3⟩ := boxes4n w o0 o1 o2 o3
  have hx : Ext ((((w.alloc o0).alloc o1).alloc o2).alloc o3) (((((w.alloc o0).alloc o1).alloc o2).alloc o3).alloc o4) := (Below.refl _ _).alloc (Nat.le_refl _) _
  exact ⟨h.trans hx, heap_ext h0 hx, heap_ext h1 hx, heap_ext h2 hx, heap_ext h3 hx, by simpa using heap_alloc_new ((((w.alloc o0).alloc o1).alloc o2).alloc o3) o4⟩
end Go.Proofs.Ytjokaginolpbeaa
