/- Proved: the law PlayDirect (made at once, by what is handed in, the five accesses of words do what chapter 10 says, and tell it; a program that is run with a log as long as it needs answers as it does at once) returns true at every input and turns none of its arguments. No condition. -/
import Derived.Test.YtennnhfaghdeoaaPlayDirUse
import Derived.Test.YtennnhfaghdeoaaPlayUse
import Derived.Test.YtennnhfaghdeoaaPlayShown
import Derived.Test.YtennnhfaghdeoaaAccLaw
import Derived.Test.YtennnhfaghdeoaaAccNew
import Derived.Test.YtennnhfaghdeoaaLift
namespace Go.Proofs.Ytennnhfaghdeoaa
open Go.ChangeShapes Go.WideShapes Go.ChangeAt Go.RowKit

def dX (s : Int) : WldK := ⟨1, 0, [0, 0, s, 0, 0, 0, 0, 0, 0], 0, 1, [([], 0)], [([], 0)]⟩
theorem dX0 : newW 1 0 = dX 0 := by rfl
theorem dFit (s : Int) : Fit (dX s) 0 := by
  refine ⟨by simp [dX], by simp [dX], by simp [dX], by simp [dX], fun k hk => ?_, fun k hk => ?_⟩
  all_goals
    simp [dX] at hk
    subst hk
    simp
theorem dDo (k s me x y : Int) (f : Bool) (h0 : 0 ≤ k) (h4 : k ≤ 4) : doK (dX s) me ⟨k, 2, x, y, [], []⟩ f = dX (turnX k s x y) := by
  have hin : inW (dX s).ws.length ⟨k, 2, x, y, [], []⟩ = true := inW_iff.2 ⟨h0, h4, by simp, by simp [dX]⟩
  rw [doK_word h0 h4, wordsK_in hin]
  rfl
theorem dR (k s x y : Int) (f : Bool) (h0 : 0 ≤ k) (h4 : k ≤ 4) : (doR (dX s) ⟨k, 2, x, y, [], []⟩ f).N = turnN k s x := by
  have hin : inW (dX s).ws.length ⟨k, 2, x, y, [], []⟩ = true := inW_iff.2 ⟨h0, h4, by simp, by simp [dX]⟩
  rw [doR_word h0 h4, wordsR, if_pos hin]
  rfl
set_option maxRecDepth 100000 in
theorem direct_any (gw : Nat) (me : Int) (X : WldK) (xA : Option Addr) (xq xc : Nat) (xB : Option Addr) (xb : Nat) (xC : Option Addr) (xd : Nat) (w : World) (h : w.heap[gw]? = some (.cells #[.int .i64 X.T, .int .i64 X.C, .slice xA xq xc, .int .u64 X.R, .slice xB X.n xb, .slice xC X.n xd] 32 (0, 0))) (hV : WldV w (.agg #[.int .i64 X.T, .int .i64 X.C, .slice xA xq xc, .int .u64 X.R, .slice xB X.n xb, .slice xC X.n xd]) X) :
    Calls Try.prog 24 #[.pointer (some ⟨gw, 0, none⟩), .int .i64 me] w fun e w' => ∃ gP gM, e = .returned (dirV gP gM) ∧ DirAt w' gP gM gw me X ∧ Ext w w' := by
  have hmf : ∀ (fn : Fn) (first cap : Array Value) (w : World), (Instr.makeFunc fn first cap).run Try.prog w = .ok (.func fn first cap) w := fun _ _ _ _ => rfl
  have hl : gw < w.heap.size := (Array.getElem?_eq_some_iff.1 h).1
  go_enter Try.func24, Try.ntmps24
  go_upto_region 1 with (fail)
  obtain ⟨hW, h0, h1⟩ := two_boxes7 w (.cells #[.pointer (some ⟨gw, 0, none⟩)] 61) (.cells #[.int .i64 me] 3)
  generalize (w.alloc (.cells #[.pointer (some ⟨gw, 0, none⟩)] 61)).alloc (.cells #[.int .i64 me] 3) = W at *
  have hD : DirAt W w.heap.size (w.heap.size + 1) gw me X := ⟨by omega, by omega, h0, h1, _, _, _, _, _, _, _, heap_ext h hW, hV.ext hW⟩
  clear h0 h1
  go_wp2
  go_ret
  exact ⟨_, _, rfl, hD, hW⟩
set_option maxRecDepth 100000 in
/-- the program that is run -/
theorem dprog_any (gA gL m ga gb : Nat) (a b : Int) (w : World) (hD : DoAt m w gA gL [⟨0, none, 0, 0, false⟩, ⟨a, none, 0, 0, false⟩, ⟨1, none, 0, 0, false⟩]) (ha : w.heap[ga]? = some (.cells #[.int .u64 a] 26 (0, 0))) (hb : w.heap[gb]? = some (.cells #[.int .u64 b] 26 (0, 0))) (na : ga ≠ gA) (nb : gb ≠ gA) :
    Calls Try.prog 31 #[doV gA gL, .pointer (some ⟨ga, 0, none⟩), .pointer (some ⟨gb, 0, none⟩)] w fun e w' => e = .returned (.agg (OutN.cells ⟨0, true, 0, a⟩)) ∧ ExtB gA w w' := by
  have hlA : gA < w.heap.size := hD.sizes.1
  have hbo : ∀ (W : World) (x : Bool) (z : Int), (Instr.build 46 #[(1, .bool x), (3, .int .u64 z)]).run Try.prog W = .ok (.agg #[.int .i64 0, .bool x, .int .i64 0, .int .u64 z, .slice none 0 0]) W := fun _ _ _ => by kernel_rfl
  go_enter Try.func31, Try.ntmps31
  go_upto_region 1 with (fail)
  have hx0 : Ext w (w.alloc (.cells #[.int .i64 0, .bool false, .int .i64 0, .int .u64 0, .slice none 0 0] 46)) := (Below.refl _ w).alloc (Nat.le_refl _) _
  have hO := heap_alloc_new w (.cells #[.int .i64 0, .bool false, .int .i64 0, .int .u64 0, .slice none 0 0] 46)
  generalize w.alloc (.cells #[.int .i64 0, .bool false, .int .i64 0, .int .u64 0, .slice none 0 0] 46) = W0 at *
  generalize hgO : w.heap.size = gO at *
  replace ha := heap_ext ha hx0
  replace hb := heap_ext hb hx0
  replace hD := hD.ext hx0
  have hB := ExtB.of (g := gA) hx0
  have nO : gO ≠ gA := by omega
  clear hx0
  have c0 : W0.cell? ⟨ga, 0, none⟩ = some (.int .u64 a) := by simp [World.cell?, ha]
  go_wp2_with fail
  refine (store_nx gA gL m 2 a _ _ W0 hD).mono ?_
  rintro e W1 ⟨rfl, hD1, hx1⟩
  replace hO := hx1.heap hO nO
  replace hb := hx1.heap hb nb
  replace hB := hB.trans hx1
  clear hx1 hD c0 ha
  go_wp2_with fail
  refine (load_nx gA gL m 2 _ _ W1 hD1).mono ?_
  rintro e W2 ⟨rfl, hD2, hx2⟩
  replace hO := hx2.heap hO nO
  replace hb := hx2.heap hb nb
  replace hB := hB.trans hx2
  clear hx2 hD1
  simp only
  have c1 : W2.cell? ⟨gb, 0, none⟩ = some (.int .u64 b) := by simp [World.cell?, hb]
  go_wp2_with fail
  refine (cas_nx gA gL m 2 a b _ _ W2 hD2).mono ?_
  rintro e W3 ⟨rfl, -, hx3⟩
  replace hO := hx3.heap hO nO
  replace hB := hB.trans hx3
  clear hx3 hD2 c1 hb
  have o0 : W3.cell? ⟨gO, 0, none⟩ = some (.int .i64 0) := by simp [World.cell?, hO]
  have of0 : W3.frozen? ⟨gO, 0, none⟩ = false := by simp [World.frozen?, hO]
  have o1 : W3.cell? ⟨gO, 1, none⟩ = some (.bool false) := by simp [World.cell?, hO]
  have of1 : W3.frozen? ⟨gO, 1, none⟩ = false := by simp [World.frozen?, hO]
  have o2 : W3.cell? ⟨gO, 2, none⟩ = some (.int .i64 0) := by simp [World.cell?, hO]
  have of2 : W3.frozen? ⟨gO, 2, none⟩ = false := by simp [World.frozen?, hO]
  have o3 : W3.cell? ⟨gO, 3, none⟩ = some (.int .u64 0) := by simp [World.cell?, hO]
  have of3 : W3.frozen? ⟨gO, 3, none⟩ = false := by simp [World.frozen?, hO]
  have o4 : W3.cell? ⟨gO, 4, none⟩ = some (.slice none 0 0) := by simp [World.cell?, hO]
  have of4 : W3.frozen? ⟨gO, 4, none⟩ = false := by simp [World.frozen?, hO]
  have hO4 : (((((W3.setCell ⟨gO, 0, none⟩ (.int .i64 0)).setCell ⟨gO, 1, none⟩ (.bool true)).setCell ⟨gO, 2, none⟩ (.int .i64 0)).setCell ⟨gO, 3, none⟩ (.int .u64 a)).setCell ⟨gO, 4, none⟩ (.slice none 0 0)).heap[gO]? = some (.cells #[.int .i64 0, .bool true, .int .i64 0, .int .u64 a, .slice none 0 0] 46 (0, 0)) := setAll_all (vs := [.int .i64 0, .bool true, .int .i64 0, .int .u64 a, .slice none 0 0]) hO rfl
  have hB4 : ExtB gA w (((((W3.setCell ⟨gO, 0, none⟩ (.int .i64 0)).setCell ⟨gO, 1, none⟩ (.bool true)).setCell ⟨gO, 2, none⟩ (.int .i64 0)).setCell ⟨gO, 3, none⟩ (.int .u64 a)).setCell ⟨gO, 4, none⟩ (.slice none 0 0)) := ExtB.setAll hB [.int .i64 0, .bool true, .int .i64 0, .int .u64 a, .slice none 0 0] (.inr (by omega)) 0
  clear hO hB
  go_wp2
  generalize (((((W3.setCell ⟨gO, 0, none⟩ (.int .i64 0)).setCell ⟨gO, 1, none⟩ (.bool true)).setCell ⟨gO, 2, none⟩ (.int .i64 0)).setCell ⟨gO, 3, none⟩ (.int .u64 a)).setCell ⟨gO, 4, none⟩ (.slice none 0 0)) = wo at *
  clear o0 o1 o2 o3 o4 of0 of1 of2 of3 of4
  have o0 : wo.cell? ⟨gO, 0, none⟩ = some (.int .i64 0) := by simp [World.cell?, hO4]
  have o1 : wo.cell? ⟨gO, 1, none⟩ = some (.bool true) := by simp [World.cell?, hO4]
  have o2 : wo.cell? ⟨gO, 2, none⟩ = some (.int .i64 0) := by simp [World.cell?, hO4]
  have o3 : wo.cell? ⟨gO, 3, none⟩ = some (.int .u64 a) := by simp [World.cell?, hO4]
  have o4 : wo.cell? ⟨gO, 4, none⟩ = some (.slice none 0 0) := by simp [World.cell?, hO4]
  refine bodyPost_ret (v := .agg #[.int .i64 0, .bool true, .int .i64 0, .int .u64 a, .slice none 0 0]) (by simp [results, Try.results31, go_sem, o0, o1, o2, o3, o4]) rfl ⟨rfl, hB4⟩
set_option maxRecDepth 100000 in
set_option maxHeartbeats 4000000 in
theorem pdirect_walk (a b : Int) (w : World) (ra : 0 ≤ a ∧ a < 18446744073709551616) (rb : 0 ≤ b ∧ b < 18446744073709551616) :
    Calls Try.prog 4 #[.int .u64 a, .int .u64 b] w fun e w' => e = .returned (.bool true) ∧ Ext w w' := by
  have hmf : ∀ (fn : Fn) (first cap : Array Value) (w : World), (Instr.makeFunc fn first cap).run Try.prog w = .ok (.func fn first cap) w := fun _ _ _ _ => rfl
  have hr0 : ∀ (W : World), (Instr.build 51 #[]).run Try.prog W = .ok (.agg #[.int .u64 0, .slice none 0 0, .bool false]) W := fun _ => by kernel_rfl
  have hr1 : ∀ (n : Int) (W : World), (Instr.build 51 #[(0, .int .u64 n)]).run Try.prog W = .ok (.agg #[.int .u64 n, .slice none 0 0, .bool false]) W := fun _ _ => by kernel_rfl
  have hr3 : ∀ (W : World) (a b c a' b' c' a2 b2 c2 : Value), (Instr.buildSlice 39 3 #[(0, .agg #[a, b, c]), (1, .agg #[a', b', c']), (2, .agg #[a2, b2, c2])]).run Try.prog W = .ok (.slice (some ⟨W.heap.size, 0, none⟩) 3 3) (W.alloc (.cells #[a, b, c, a', b', c', a2, b2, c2] 51)) := fun _ _ _ _ _ _ _ _ _ _ => by kernel_rfl
  go_enter Try.func4, Try.ntmps4
  go_upto_region 1 with (fail)
  obtain ⟨hW, hA, hB⟩ := two_boxes7 w (.cells #[.int .u64 a] 26) (.cells #[.int .u64 b] 26)
  generalize (w.alloc (.cells #[.int .u64 a] 26)).alloc (.cells #[.int .u64 b] 26) = W0 at *
  have hga : w.heap.size + 1 < W0.heap.size := (Array.getElem?_eq_some_iff.1 hB).1
  generalize hgs : w.heap.size = ga at *
  go_wp2_with fail
  refine (shown11_any _).mono ?_
  rintro e W1 ⟨rfl, hx⟩
  replace hA := heap_ext hA hx
  replace hB := heap_ext hB hx
  replace hga := Nat.lt_of_lt_of_le hga hx.size
  replace hW := hW.trans hx
  clear hx
  go_wp2_with fail
  refine (ranew_yes 1 0 (by omega) (by omega) (by omega) _).mono ?_
  rintro e u0 ⟨v0, rfl, hV, hx⟩
  rw [dX0] at hV
  obtain ⟨xA, xq, xc, xB, xb, xC, xd, rfl⟩ := hV.form
  replace hA := heap_ext hA hx
  replace hB := heap_ext hB hx
  replace hga := Nat.lt_of_lt_of_le hga hx.size
  replace hW := hW.trans hx
  clear hx
  go_upto_region 3 with (fail)
  have hx : Ext u0 (u0.alloc (.cells #[.int .i64 (dX 0).T, .int .i64 (dX 0).C, .slice xA xq xc, .int .u64 (dX 0).R, .slice xB (dX 0).n xb, .slice xC (dX 0).n xd] 32)) := (Below.refl _ u0).alloc (Nat.le_refl _) _
  have hw := heap_alloc_new u0 (.cells #[.int .i64 (dX 0).T, .int .i64 (dX 0).C, .slice xA xq xc, .int .u64 (dX 0).R, .slice xB (dX 0).n xb, .slice xC (dX 0).n xd] 32)
  generalize u0.alloc (.cells #[.int .i64 (dX 0).T, .int .i64 (dX 0).C, .slice xA xq xc, .int .u64 (dX 0).R, .slice xB (dX 0).n xb, .slice xC (dX 0).n xd] 32) = U0 at *
  generalize hgw : u0.heap.size = gw at *
  replace hA := heap_ext hA hx
  replace hB := heap_ext hB hx
  replace hV := hV.ext hx
  replace hW := hW.trans hx
  clear hx
  have na : ga ≠ gw := by omega
  have nb : ga + 1 ≠ gw := by omega
  have hgl : w.heap.size ≤ gw := by omega
  clear hgw hga
  go_wp2_with fail
  refine (direct_any gw 0 (dX 0) _ _ _ _ _ _ _ U0 hw hV).mono ?_
  rintro e V0 ⟨gP, gM, rfl, hD, hx⟩
  replace hA := heap_ext hA hx
  replace hB := heap_ext hB hx
  replace hW := hW.trans hx
  clear hx hw hV
  simp only [dirV]
  have ca : V0.cell? ⟨ga, 0, none⟩ = some (.int .u64 a) := by simp [World.cell?, hA]
  go_wp2_with fail
  refine (store_dir gP gM gw 0 (dX 0) 2 a _ ra hD (by simp [dX]) (dFit _)).mono ?_
  rintro e V1 ⟨rfl, hD, hx⟩
  simp only [dDo _ _ _ _ _ _ (show (0 : Int) ≤ 1 by omega) (show (1 : Int) ≤ 4 by omega)] at hD
  simp only [dR _ _ _ _ _ (show (0 : Int) ≤ 1 by omega) (show (1 : Int) ≤ 4 by omega)]
  rw [show turnX 1 0 a 0 = a by simp [turnX]] at hD
  replace hA := hx.heap hA na
  replace hB := hx.heap hB nb
  replace hW := hx.ext hW hgl
  clear hx ca
  go_wp2_with fail
  refine (load_dir gP gM gw 0 (dX a) 2 _ hD (by simp [dX]) (dFit _)).mono ?_
  rintro e V2 ⟨rfl, hD, hx⟩
  simp only [dDo _ _ _ _ _ _ (show (0 : Int) ≤ 0 by omega) (show (0 : Int) ≤ 4 by omega)] at hD
  simp only [dR _ _ _ _ _ (show (0 : Int) ≤ 0 by omega) (show (0 : Int) ≤ 4 by omega)]
  rw [show turnX 0 a 0 0 = a by simp [turnX]] at hD
  rw [show turnN 0 a 0 = a by simp [turnN]]
  replace hA := hx.heap hA na
  replace hB := hx.heap hB nb
  replace hW := hx.ext hW hgl
  clear hx
  have ca : V2.cell? ⟨ga, 0, none⟩ = some (.int .u64 a) := by simp [World.cell?, hA]
  have cb : V2.cell? ⟨ga + 1, 0, none⟩ = some (.int .u64 b) := by simp [World.cell?, hB]
  go_wp2_with fail
  refine (cas_dir gP gM gw 0 (dX a) 2 a b _ ra rb hD (by simp [dX]) (dFit _)).mono ?_
  rintro e V3 ⟨rfl, hD, hx⟩
  simp only [dDo _ _ _ _ _ _ (show (0 : Int) ≤ 2 by omega) (show (2 : Int) ≤ 4 by omega)] at hD
  simp only [dR _ _ _ _ _ (show (0 : Int) ≤ 2 by omega) (show (2 : Int) ≤ 4 by omega)]
  rw [show turnX 2 a a b = b by simp [turnX]] at hD
  rw [show turnN 2 a a = 1 by simp [turnN]]
  replace hA := hx.heap hA na
  replace hB := hx.heap hB nb
  replace hW := hx.ext hW hgl
  clear hx ca cb
  have ca : V3.cell? ⟨ga, 0, none⟩ = some (.int .u64 a) := by simp [World.cell?, hA]
  go_wp2_with fail
  refine (cas_dir gP gM gw 0 (dX b) 2 a a _ ra ra hD (by simp [dX]) (dFit _)).mono ?_
  rintro e V4 ⟨rfl, hD, hx⟩
  simp only [dDo _ _ _ _ _ _ (show (0 : Int) ≤ 2 by omega) (show (2 : Int) ≤ 4 by omega)] at hD
  simp only [dR _ _ _ _ _ (show (0 : Int) ≤ 2 by omega) (show (2 : Int) ≤ 4 by omega)]
  rw [show turnX 2 b a a = b by simp only [turnX]; by_cases h : b = a <;> simp [h]] at hD
  rw [show turnN 2 b a = (if b = a then 1 else 0) by simp [turnN]]
  replace hA := hx.heap hA na
  replace hB := hx.heap hB nb
  replace hW := hx.ext hW hgl
  clear hx ca
  obtain ⟨bb, hbb⟩ : ∃ bb : Bool, ((if b = a then (1 : Int) else 0) == 1) = bb := ⟨_, rfl⟩
  rw [hbb]
  have HBB := Lib.hid hbb
  clear hbb
  go_wp2_with fail
  refine (add_dir gP gM gw 0 (dX b) 2 3 _ (by omega) hD (by simp [dX]) (dFit _)).mono ?_
  rintro e V5 ⟨rfl, hD, hx⟩
  simp only [dDo _ _ _ _ _ _ (show (0 : Int) ≤ 3 by omega) (show (3 : Int) ≤ 4 by omega)] at hD
  simp only [dR _ _ _ _ _ (show (0 : Int) ≤ 3 by omega) (show (3 : Int) ≤ 4 by omega)]
  rw [show turnX 3 b 3 0 = ((b + 3) % 18446744073709551616) by simp [turnX]] at hD
  rw [show turnN 3 b 3 = b by simp [turnN]]
  replace hA := hx.heap hA na
  replace hB := hx.heap hB nb
  replace hW := hx.ext hW hgl
  clear hx
  have hwr : IntKind.u64.wrap (b + 3) = (b + 3) % 18446744073709551616 := IntKind.wrap_u64 _
  generalize (b + 3) % 18446744073709551616 = b3 at *
  go_wp2_with fail
  refine (swap_dir gP gM gw 0 (dX b3) 2 9 _ (by omega) hD (by simp [dX]) (dFit _)).mono ?_
  rintro e V6 ⟨rfl, hD, hx⟩
  simp only [dDo _ _ _ _ _ _ (show (0 : Int) ≤ 4 by omega) (show (4 : Int) ≤ 4 by omega)] at hD
  simp only [dR _ _ _ _ _ (show (0 : Int) ≤ 4 by omega) (show (4 : Int) ≤ 4 by omega)]
  rw [show turnX 4 b3 9 0 = 9 by simp [turnX]] at hD
  rw [show turnN 4 b3 9 = b3 by simp [turnN]]
  replace hA := hx.heap hA na
  replace hB := hx.heap hB nb
  replace hW := hx.ext hW hgl
  clear hx
  go_wp2_with fail
  refine (load_dir gP gM gw 0 (dX 9) 2 _ hD (by simp [dX]) (dFit _)).mono ?_
  rintro e V7 ⟨rfl, hD, hx⟩
  simp only [dDo _ _ _ _ _ _ (show (0 : Int) ≤ 0 by omega) (show (0 : Int) ≤ 4 by omega)] at hD
  simp only [dR _ _ _ _ _ (show (0 : Int) ≤ 0 by omega) (show (0 : Int) ≤ 4 by omega)]
  rw [show turnX 0 9 0 0 = 9 by simp [turnX]] at hD
  rw [show turnN 0 9 0 = 9 by simp [turnN]]
  replace hA := hx.heap hA na
  replace hB := hx.heap hB nb
  replace hW := hx.ext hW hgl
  clear hx
  clear hD
  have ca : V7.cell? ⟨ga, 0, none⟩ = some (.int .u64 a) := by simp [World.cell?, hA]
  go_upto_region 12 with (fail)
  have hx : Ext V7 (V7.alloc (.cells #[.int .u64 0, .slice none 0 0, .bool false, .int .u64 a, .slice none 0 0, .bool false, .int .u64 1, .slice none 0 0, .bool false] 51)) := (Below.refl _ V7).alloc (Nat.le_refl _) _
  have hlg : LogV (V7.alloc (.cells #[.int .u64 0, .slice none 0 0, .bool false, .int .u64 a, .slice none 0 0, .bool false, .int .u64 1, .slice none 0 0, .bool false] 51)) (some ⟨V7.heap.size, 0, none⟩) 3 3 [⟨0, none, 0, 0, false⟩, ⟨a, none, 0, 0, false⟩, ⟨1, none, 0, 0, false⟩] :=
    LogV.of_heap (l := [⟨0, none, 0, 0, false⟩, ⟨a, none, 0, 0, false⟩, ⟨1, none, 0, 0, false⟩]) (by simp) (heap_alloc_new V7 _) rfl
  generalize V7.alloc (.cells #[.int .u64 0, .slice none 0 0, .bool false, .int .u64 a, .slice none 0 0, .bool false, .int .u64 1, .slice none 0 0, .bool false] 51) = V8 at *
  generalize V7.heap.size = gl at *
  replace hA := heap_ext hA hx
  replace hB := heap_ext hB hx
  replace hW := hW.trans hx
  clear hx ca
  have hl8 : ga + 1 < V8.heap.size := (Array.getElem?_eq_some_iff.1 hB).1
  go_wp2_with fail
  refine (run_done 31 #[.pointer (some ⟨ga, 0, none⟩), .pointer (some ⟨ga + 1, 0, none⟩)] _ 3 3 _ ⟨0, true, 0, a⟩ V8 hlg Try.call31 fun gA gL W' hx h1 h2 hD => dprog_any gA gL _ ga (ga + 1) a b W' hD (heap_ext hA hx) (heap_ext hB hx) (by omega) (by omega)).mono ?_
  rintro e V9 ⟨rfl, hx⟩
  replace hA := heap_ext hA hx
  replace hB := heap_ext hB hx
  replace hW := hW.trans hx
  clear hx hlg
  simp only [accZero, OutN.cells]
  go_upto_region 13 with (fail)
  obtain ⟨hx, -, hO⟩ := two_boxes7 V9 (.cells #[.int .i64 0, .int .i64 0, .int .u64 0, .int .u64 0, .slice none 0 0, .slice none 0 0] 42) (.cells #[.int .i64 0, .bool true, .int .i64 0, .int .u64 a, .slice none 0 0] 46)
  generalize (V9.alloc (.cells #[.int .i64 0, .int .i64 0, .int .u64 0, .int .u64 0, .slice none 0 0, .slice none 0 0] 42)).alloc (.cells #[.int .i64 0, .bool true, .int .i64 0, .int .u64 a, .slice none 0 0] 46) = U9 at *
  generalize V9.heap.size = g9 at *
  replace hA := heap_ext hA hx
  replace hB := heap_ext hB hx
  replace hW := hW.trans hx
  clear hx
  have ca : U9.cell? ⟨ga, 0, none⟩ = some (.int .u64 a) := by simp [World.cell?, hA]
  have cb : U9.cell? ⟨ga + 1, 0, none⟩ = some (.int .u64 b) := by simp [World.cell?, hB]
  have o0 : U9.cell? ⟨g9 + 1, 0, none⟩ = some (.int .i64 0) := by simp [World.cell?, hO]
  have o1 : U9.cell? ⟨g9 + 1, 1, none⟩ = some (.bool true) := by simp [World.cell?, hO]
  have o2 : U9.cell? ⟨g9 + 1, 2, none⟩ = some (.int .i64 0) := by simp [World.cell?, hO]
  have o3 : U9.cell? ⟨g9 + 1, 3, none⟩ = some (.int .u64 a) := by simp [World.cell?, hO]
  have o4 : U9.cell? ⟨g9 + 1, 4, none⟩ = some (.slice none 0 0) := by simp [World.cell?, hO]
  clear hA hB hO hmf hr0 hr1 hr3
  by_cases hab : b = a
  · obtain rfl : bb = true := by rw [← HBB.out]; simp [hab]
    subst hab
    clear HBB
    go_wp2
    go_ret
    exact ⟨rfl, hW⟩
  · have hab' : ¬ a = b := fun e => hab e.symm
    have hz : (a == b) = false := by simp [hab']
    obtain rfl : bb = false := by rw [← HBB.out]; simp [hab]
    clear HBB
    go_wp2
    go_ret
    exact ⟨rfl, hW⟩
set_option maxRecDepth 100000 in
theorem PlayDirect_lifted (os : Os) (started : os.Started) (H : Type) (enc : TypeId × Value → H) :
    ReturnsInHanded {} Try.checked os 4 .any (Rows.playDirectSpec.pre6 enc Try.prog Try.f4 Rows.playDirectRow.domain false) (Rows.playDirectSpec.post enc Try.prog Try.f4 false true false false) := by
  refine law_row os started H enc Rows.playDirectSpec rfl (fun ds h => by
    match ds, h with
    | [_, _], _ => rfl) (by kernel_rfl) Try.func4 rfl
    (by rw [Try.params4]; intro t ht; simp at ht; subst ht; exact ⟨by kernel_rfl, of_decide_eq_true (by kernel_rfl)⟩)
    (ChangeSpec.witness6 (enc := enc) (C := Try.checked) false ⟨#[], #[.int .u64 0, .int .u64 0], []⟩ 8 (by kernel_rfl) (by kernel_rfl) (by kernel_rfl) (by kernel_rfl)) ?_
  intro W base args ds ps hval hA hlt
  rw [Try.params4] at hA hval
  obtain ⟨v0, v1, d0, d1, p0, p1, rfl, rfl, rfl, h0, h1⟩ := trodAll_two hA
  obtain ⟨a, rfl, rfl, rfl, w1⟩ := open_int Try.underlying26 (hval 0 _ v0 rfl rfl) h0
  obtain ⟨b, rfl, rfl, rfl, w2⟩ := open_int Try.underlying26 (hval 1 _ v1 rfl rfl) h1
  exact pdirect_walk a b W (wf_u64 w1) (wf_u64 w2)
theorem PlayDirect_holds : Rows.PlayDirectSaid :=
  OpenClaim.holds_of_wide 4 Try.f4 rfl rfl rfl rfl rfl rfl rfl ⟨rfl, rfl, rfl, rfl, rfl⟩ rfl rfl rfl rfl rfl (by kernel_rfl) Try.func4 (by kernel_rfl)
    (of_decide_eq_true (by kernel_rfl)) (by unfold Func.isWrapper; rw [if_neg (of_decide_eq_false (by kernel_rfl))]; exact ⟨rfl, rfl⟩)
    (fun os started H enc _ => PlayDirect_lifted os started H enc)
#print axioms PlayDirect_holds
end Go.Proofs.Ytennnhfaghdeoaa
