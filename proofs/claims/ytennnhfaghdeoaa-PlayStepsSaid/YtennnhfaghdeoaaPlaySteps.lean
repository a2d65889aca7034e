/- Proved: the law PlaySteps (played on a world, an access a step, a row of accesses is done behind as many steps as it has, with the world that they make, one behind the other; and told longer, it answers the same) returns true at every input and turns none of its arguments. No condition. -/
import Derived.Test.YtennnhfaghdeoaaStepsLib
import Derived.Test.YtennnhfaghdeoaaAccRefB
import Derived.Test.YtennnhfaghdeoaaAccSame
import Derived.Test.YtennnhfaghdeoaaSureL
namespace Go.Proofs.Ytennnhfaghdeoaa
open Go.ChangeShapes Go.WideShapes Go.ChangeAt Go.RowKit

set_option maxRecDepth 100000 in
set_option maxHeartbeats 20000000 in
theorem steps_walk (L : Option Addr) (n lc : Nat) (l : List Acc) (ks : Nat → AccK) (T C : Int) (A : Option Addr) (q c : Nat) (ws : List Int) (R : Int) (A0 A1 : Option Addr) (n0 c0 n1 c1 : Nat) (l0 l1 : List St) (me : Int) (F : Option Addr) (fn fc : Nat) (bs : List Bool) (w : World) (hL : AccsP w L n lc l) (hks : ∀ (j : Nat) (x : Acc), l[j]? = some x → AccV w x.v (ks j)) (hP : WldP w A q c ws R A0 A1 n0 c0 n1 c1 l0 l1) (hS : BoolsV w F fn fc bs) (hfn : fn ≤ maxLen) :
  Calls Try.prog 3 #[.agg #[.slice L n lc, .int .i64 T, .int .i64 C, .slice A q c, .int .u64 R, .slice A0 n0 c0, .slice A1 n1 c1, .int .i64 me, .slice F fn fc]] w fun e w' => e = .returned (.bool true) ∧ Ext w w' := by
 have hqc := Nat.le_trans hP.words.le hP.words.cap
 have hlen := hL.accs.len
 have hncap := hL.cap
 have hbl := hS.len
 simp only [maxLen] at hqc hncap hfn
 obtain ⟨i0, hi0, hz0, hz1, hz2⟩ := info_parts info_result
 have hr1 : ∀ (W : World) (a b c : Value), (Instr.buildSlice 39 1 #[(0, .agg #[a, b, c])]).run Try.prog W = .ok (.slice (some ⟨W.heap.size, 0, none⟩) 1 1) (W.alloc (.cells #[a, b, c] 51)) := fun _ _ _ _ => by kernel_rfl
 have hr0 : ∀ W : World, (Instr.buildSlice 39 0 #[]).run Try.prog W = .ok (.slice (some ⟨W.heap.size, 0, none⟩) 0 0) (W.alloc (.cells #[] 51)) := fun _ => by kernel_rfl
 have hm5 : ∀ W : World, (Instr.build 51 #[(0, .int .u64 5)]).run Try.prog W = .ok (.agg #[.int .u64 5, .slice none 0 0, .bool false]) W := fun _ => by kernel_rfl
 have hW : Ext w (w.alloc (.cells #[.slice L n lc, .int .i64 T, .int .i64 C, .slice A q c, .int .u64 R, .slice A0 n0 c0, .slice A1 n1 c1, .int .i64 me, .slice F fn fc] 35)) := (Below.refl _ w).alloc (Nat.le_refl _) _
 have hI := heap_alloc_new w (.cells #[.slice L n lc, .int .i64 T, .int .i64 C, .slice A q c, .int .u64 R, .slice A0 n0 c0, .slice A1 n1 c1, .int .i64 me, .slice F fn fc] 35)
 go_enter Try.func3, Try.ntmps3
 go_upto_region 1 with (fail)
 generalize w.alloc (.cells #[.slice L n lc, .int .i64 T, .int .i64 C, .slice A q c, .int .u64 R, .slice A0 n0 c0, .slice A1 n1 c1, .int .i64 me, .slice F fn fc] 35) = W0 at *
 generalize w.heap.size = g0 at *
 replace hP := hP.ext hW
 have i0 : W0.cell? ⟨g0, 0, none⟩ = some (.slice L n lc) := by simp [World.cell?, hI]
 have i1 : W0.cell? ⟨g0, 1, none⟩ = some (.int .i64 T) := by simp [World.cell?, hI]
 have i2 : W0.cell? ⟨g0, 2, none⟩ = some (.int .i64 C) := by simp [World.cell?, hI]
 have i3 : W0.cell? ⟨g0, 3, none⟩ = some (.slice A q c) := by simp [World.cell?, hI]
 have i4 : W0.cell? ⟨g0, 4, none⟩ = some (.int .u64 R) := by simp [World.cell?, hI]
 have i5 : W0.cell? ⟨g0, 5, none⟩ = some (.slice A0 n0 c0) := by simp [World.cell?, hI]
 have i6 : W0.cell? ⟨g0, 6, none⟩ = some (.slice A1 n1 c1) := by simp [World.cell?, hI]
 have i7 : W0.cell? ⟨g0, 7, none⟩ = some (.int .i64 me) := by simp [World.cell?, hI]
 have i8 : W0.cell? ⟨g0, 8, none⟩ = some (.slice F fn fc) := by simp [World.cell?, hI]
 go_upto_region 3 with (fail)
 have hx_ : Ext W0 (W0.alloc (.cells #[.int .i64 T, .int .i64 C, .slice A q c, .int .u64 R, .slice A0 n0 c0, .slice A1 n1 c1] 32)) := (Below.refl _ W0).alloc (Nat.le_refl _) _
 have hB := heap_alloc_new W0 (.cells #[.int .i64 T, .int .i64 C, .slice A q c, .int .u64 R, .slice A0 n0 c0, .slice A1 n1 c1] 32)
 generalize W0.alloc (.cells #[.int .i64 T, .int .i64 C, .slice A q c, .int .u64 R, .slice A0 n0 c0, .slice A1 n1 c1] 32) = W1 at *
 generalize W0.heap.size = gw at *
 clear i0 i1 i2 i3 i4 i5 i6 i7 i8
 replace hI := heap_ext hI hx_
 replace hP := hP.ext hx_
 replace hW := hW.trans hx_
 clear hx_
 have i0 : W1.cell? ⟨g0, 0, none⟩ = some (.slice L n lc) := by simp [World.cell?, hI]
 have i1 : W1.cell? ⟨g0, 1, none⟩ = some (.int .i64 T) := by simp [World.cell?, hI]
 have i2 : W1.cell? ⟨g0, 2, none⟩ = some (.int .i64 C) := by simp [World.cell?, hI]
 have i3 : W1.cell? ⟨g0, 3, none⟩ = some (.slice A q c) := by simp [World.cell?, hI]
 have i4 : W1.cell? ⟨g0, 4, none⟩ = some (.int .u64 R) := by simp [World.cell?, hI]
 have i5 : W1.cell? ⟨g0, 5, none⟩ = some (.slice A0 n0 c0) := by simp [World.cell?, hI]
 have i6 : W1.cell? ⟨g0, 6, none⟩ = some (.slice A1 n1 c1) := by simp [World.cell?, hI]
 have i7 : W1.cell? ⟨g0, 7, none⟩ = some (.int .i64 me) := by simp [World.cell?, hI]
 have i8 : W1.cell? ⟨g0, 8, none⟩ = some (.slice F fn fc) := by simp [World.cell?, hI]
 go_upto_region 5 with (fail)
 clear i0 i1 i2 i3 i4 i5 i6 i7 i8
 go_wp2_with fail
 refine (shown11_any _).mono ?_
 rintro e W2 ⟨rfl, hx⟩
 replace hI := heap_ext hI hx
 replace hB := heap_ext hB hx
 replace hP := hP.ext hx
 replace hW := hW.trans hx
 clear hx
 go_wp2_with fail
 refine (few_any L n lc 30 l _ (hL.accs.ext hW) (by omega) (by omega) (fun j x hj => by have h1 := (hL.ok j x hj).2.1; have h2 := (hL.ok j x hj).2.2; simp only [maxLen] at h1 h2; omega)).mono ?_
 rintro e W3 ⟨⟨few, rfl, hfw⟩, hx⟩
 replace hI := heap_ext hI hx
 replace hB := heap_ext hB hx
 replace hP := hP.ext hx
 replace hW := hW.trans hx
 clear hx
 cases few
 ·go_wp2
  go_ret
  exact ⟨rfl, hW⟩
 obtain ⟨hn30, hfx⟩ := hfw rfl
 clear hfw
 have e0 : W3.cell? ⟨gw, 0, none⟩ = some (.int .i64 T) := by simp [World.cell?, hB]
 have e1 : W3.cell? ⟨gw, 1, none⟩ = some (.int .i64 C) := by simp [World.cell?, hB]
 have e2 : W3.cell? ⟨gw, 2, none⟩ = some (.slice A q c) := by simp [World.cell?, hB]
 have e3 : W3.cell? ⟨gw, 3, none⟩ = some (.int .u64 R) := by simp [World.cell?, hB]
 have e4 : W3.cell? ⟨gw, 4, none⟩ = some (.slice A0 n0 c0) := by simp [World.cell?, hB]
 have e5 : W3.cell? ⟨gw, 5, none⟩ = some (.slice A1 n1 c1) := by simp [World.cell?, hB]
 go_wp2_with fail
 refine (small_any T C A q c R A0 A1 n0 c0 n1 c1 l0 l1 me _ hP.row0 hP.row1 (by omega) hP.z0 hP.z1).mono ?_
 rintro e W4 ⟨⟨sm, rfl, hsm⟩, hx⟩
 clear e0 e1 e2 e3 e4 e5
 replace hI := heap_ext hI hx
 replace hB := heap_ext hB hx
 replace hP := hP.ext hx
 replace hW := hW.trans hx
 clear hx
 cases sm
 ·go_wp2
  go_ret
  exact ⟨rfl, hW⟩
 have hSm := hsm rfl
 clear hsm
 obtain ⟨rfl, hnT, hmay, hqq, hF, hV⟩ := hP.small hSm.right hSm.sum hSm.q6
 clear hSm hnT hmay hqq hP
 generalize hX0 : (⟨T, C, ws, R, n1, l0.map St.key, l1.map St.key⟩ : WldK) = X0 at *
 clear hX0
 go_upto_region 8 with (fail)
 have e0 : W4.cell? ⟨gw, 0, none⟩ = some (.int .i64 T) := by simp [World.cell?, hB]
 have e1 : W4.cell? ⟨gw, 1, none⟩ = some (.int .i64 C) := by simp [World.cell?, hB]
 have e2 : W4.cell? ⟨gw, 2, none⟩ = some (.slice A q c) := by simp [World.cell?, hB]
 have e3 : W4.cell? ⟨gw, 3, none⟩ = some (.int .u64 R) := by simp [World.cell?, hB]
 have e4 : W4.cell? ⟨gw, 4, none⟩ = some (.slice A0 n1 c0) := by simp [World.cell?, hB]
 have e5 : W4.cell? ⟨gw, 5, none⟩ = some (.slice A1 n1 c1) := by simp [World.cell?, hB]
 have hgx0 := hW.size
 go_upto_region 9 with (fail)
 have hx_ : Ext W4 (W4.alloc (.cells #[.int .i64 T, .int .i64 C, .slice A q c, .int .u64 R, .slice A0 n1 c0, .slice A1 n1 c1] 32)) := (Below.refl _ W4).alloc (Nat.le_refl _) _
 have hXb := heap_alloc_new W4 (.cells #[.int .i64 T, .int .i64 C, .slice A q c, .int .u64 R, .slice A0 n1 c0, .slice A1 n1 c1] 32)
 generalize W4.alloc (.cells #[.int .i64 T, .int .i64 C, .slice A q c, .int .u64 R, .slice A0 n1 c0, .slice A1 n1 c1] 32) = W5 at *
 generalize W4.heap.size = gx at *
 clear e0 e1 e2 e3 e4 e5
 replace hI := heap_ext hI hx_
 replace hB := heap_ext hB hx_
 replace hV := hV.ext hx_
 replace hW := hW.trans hx_
 clear hx_
 have e0 : W5.cell? ⟨gw, 0, none⟩ = some (.int .i64 T) := by simp [World.cell?, hB]
 have e1 : W5.cell? ⟨gw, 1, none⟩ = some (.int .i64 C) := by simp [World.cell?, hB]
 have e2 : W5.cell? ⟨gw, 2, none⟩ = some (.slice A q c) := by simp [World.cell?, hB]
 have e3 : W5.cell? ⟨gw, 3, none⟩ = some (.int .u64 R) := by simp [World.cell?, hB]
 have e4 : W5.cell? ⟨gw, 4, none⟩ = some (.slice A0 n1 c0) := by simp [World.cell?, hB]
 have e5 : W5.cell? ⟨gw, 5, none⟩ = some (.slice A1 n1 c1) := by simp [World.cell?, hB]
 have hgxy : gx < W5.heap.size := (Array.getElem?_eq_some_iff.1 hXb).1
 go_upto_region 10 with (fail)
 have hx_ : Ext W5 (W5.alloc (.cells #[.int .i64 T, .int .i64 C, .slice A q c, .int .u64 R, .slice A0 n1 c0, .slice A1 n1 c1] 32)) := (Below.refl _ W5).alloc (Nat.le_refl _) _
 have hYb := heap_alloc_new W5 (.cells #[.int .i64 T, .int .i64 C, .slice A q c, .int .u64 R, .slice A0 n1 c0, .slice A1 n1 c1] 32)
 generalize W5.alloc (.cells #[.int .i64 T, .int .i64 C, .slice A q c, .int .u64 R, .slice A0 n1 c0, .slice A1 n1 c1] 32) = W6 at *
 generalize W5.heap.size = gy at *
 clear e0 e1 e2 e3 e4 e5
 replace hI := heap_ext hI hx_
 replace hB := heap_ext hB hx_
 replace hXb := heap_ext hXb hx_
 replace hV := hV.ext hx_
 replace hW := hW.trans hx_
 clear hx_
 have hgys : gy < W6.heap.size := (Array.getElem?_eq_some_iff.1 hYb).1
 have hbx : BoxW W6 gx X0 := ⟨_, hXb, hV⟩
 have hby : BoxW W6 gy X0 := ⟨_, hYb, hV⟩
 clear hXb hYb hI hB hV
 generalize hgs : W6.heap.size = gs at *
 have nxy : ¬ gx = gy := by omega
 obtain ⟨fl, hfl⟩ : ∃ fl : Nat → Bool, ∀ j, fl j = (if j < fn then bs.getD j false else false) := ⟨_, fun _ => rfl⟩
 have hk100 : ∀ i, i < n → (ks i).data.length ≤ 100 := fun i hi => by
  obtain ⟨x, hx⟩ : ∃ x, l[i]? = some x := ⟨_, List.getElem?_eq_getElem (by omega)⟩
  rw [accv_len (hks i x hx)]; exact (hfx i x hx).1
 go_wp2
 go_loopw [12, 10, 11] (fun iv lv sv wr => ∃ (j : Nat) (rs : List Res), iv = .int .i64 (j : Int) ∧ j ≤ n ∧ rs.length = j ∧ sv = .int .u64 (lineSum rs j) ∧ ResOwn wr gs lv j rs ∧ Ext w wr ∧ gs ≤ wr.heap.size ∧ BoxW wr gx (stX X0 me ks fl j) ∧ BoxW wr gy (stX X0 me ks fl j)) (fun iv _ _ _ => n - (intOf iv).toNat)
 case atStart => exact ⟨0, [], rfl, Nat.zero_le _, rfl, by simp [lineSum, sumN, IntKind.wrap_u64], ResOwn.nil _ _, hW, Nat.le_of_eq hgs.symm, hbx, hby⟩
 case round =>
  obtain ⟨j, rs, rfl, hj, hrl, rfl, hown, hWr, hgr, hbx, hby⟩ := hrel
  clear hW hgs
  rcases Nat.lt_or_ge j n with hjn | hjn
  ·obtain ⟨x, hxl⟩ : ∃ x, l[j]? = some x := ⟨_, List.getElem?_eq_getElem (by omega)⟩
   obtain ⟨a, rfl, hca⟩ := hL.accs.at_ j x hxl
   have hKV := hks j x hxl
   obtain ⟨hok, -, -⟩ := hL.ok j x hxl
   have hwk := (hfx j x hxl).2
   have hwk6 : x.wk ≤ 65536 := by omega
   have hFj := stX_fit (me := me) (ks := ks) (fl := fl) hF j (by omega) (fun i hi => hk100 i (by omega))
   have hdj : (ks j).data.length ≤ 100 := hk100 j hjn
   have hjI : (j : Int) < (n : Int) := by omega
   obtain ⟨B, kc, rfl, hlog, hB2n, hB4⟩ := hown.log (by omega)
   have hstop := lineEnd_next (by rw [hrl]; exact hxl : l[rs.length]? = some x)
   obtain ⟨x0, x1, x2, x3, x4, x5, x6, x7, x8, x9⟩ := x
   simp only [Acc.v, Acc.cells] at hKV hca
   simp only [Acc.cells, outZero] at hstop
   simp only at hwk6
   have y0 := hWr.cell (hca 0 (.int .i64 x0) rfl)
   rw [show ((a.add (j * 6)).add 0) = a.add (j * 6) from rfl] at y0
   have y1 := hWr.cell (hca 1 (.int .i64 x1) rfl)
   rw [show ((a.add (j * 6)).add 1) = ⟨(a.add (j * 6)).block, (a.add (j * 6)).off + 1, none⟩ from rfl] at y1
   have y2 := hWr.cell (hca 2 (.int .u64 x2) rfl)
   rw [show ((a.add (j * 6)).add 2) = ⟨(a.add (j * 6)).block, (a.add (j * 6)).off + 2, none⟩ from rfl] at y2
   have y3 := hWr.cell (hca 3 (.int .u64 x3) rfl)
   rw [show ((a.add (j * 6)).add 3) = ⟨(a.add (j * 6)).block, (a.add (j * 6)).off + 3, none⟩ from rfl] at y3
   have y4 := hWr.cell (hca 4 (.slice x4 x5 x6) rfl)
   rw [show ((a.add (j * 6)).add 4) = ⟨(a.add (j * 6)).block, (a.add (j * 6)).off + 4, none⟩ from rfl] at y4
   have y5 := hWr.cell (hca 5 (.slice x7 x8 x9) rfl)
   rw [show ((a.add (j * 6)).add 5) = ⟨(a.add (j * 6)).block, (a.add (j * 6)).off + 5, none⟩ from rfl] at y5
   clear hca
   have hl3 : 2 ≤ (doK (stX X0 me ks fl j) me (ks j) (fl j)).ws.length := by
    have := (stX_fit (me := me) (ks := ks) (fl := fl) hF (j + 1) (by omega) (fun i hi => hk100 i (by omega))).ws.1
    exact this
   generalize hX1 : doK (stX X0 me ks fl j) me (ks j) (fl j) = X1 at hl3
   have HNX := Lib.hid (show stX X0 me ks fl (j + 1) = X1 from hX1)
   have HX1 := Lib.hid hX1
   generalize hR1 : doR (stX X0 me ks fl j) (ks j) (fl j) = R1
   have HR1 := Lib.hid hR1
   clear hX1 hR1
   have hflj := hfl j
   generalize stX X0 me ks fl j = Xj at *
   generalize ks j = K at *
   generalize fl j = f at *
   rcases Nat.lt_or_ge j fn with hjf | hjf
   all_goals
    first
     | (obtain ⟨b, hb⟩ : ∃ b, bs[j]? = some b := ⟨_, List.getElem?_eq_getElem (by omega)⟩; obtain ⟨sF, rfl, hcb⟩ := hS.at_ j b hb; obtain rfl : f = b := (by rw [hflj, if_pos hjf]; simp [List.getD_eq_getElem?_getD, hb]); have y6 := hWr.cell hcb; have hjfI : (j : Int) < (fn : Int) := (by omega); clear hcb hflj hb; go_upto_region 16 with (fail); clear y6)
     | (obtain rfl : f = false := (by rw [hflj, if_neg (by omega)]); have hjfI : ¬ (j : Int) < (fn : Int) := (by omega); clear hflj; go_upto_region 16 with (fail))
    go_wp2_with fail
    refine (line_any (some a) n lc l B j kc rs _ (hL.accs.ext hWr) (by omega) hlog).mono ?_
    rintro e w1 ⟨rfl, hx⟩
    rw [hstop]
    clear hlog hstop hB4 hB2n
    replace hown := hown.ext hx
    replace hgr := Nat.le_trans hgr hx.size
    replace y0 := hx.cell y0
    replace y1 := hx.cell y1
    replace y2 := hx.cell y2
    replace y3 := hx.cell y3
    replace y4 := hx.cell y4
    replace y5 := hx.cell y5
    replace hbx := hbx.ext hx
    replace hby := hby.ext hx
    replace hWr := hWr.trans hx
    clear hx
    go_upto_region 17 with (fail)
    obtain ⟨hx, hA14, -⟩ := two_boxes7 w1 (.cells #[.int .i64 x0, .int .i64 x1, .int .u64 x2, .int .u64 x3, .slice x4 x5 x6, .slice x7 x8 x9] 42) (.cells #[.int .i64 0, .bool false, .int .i64 0, .int .u64 0, .slice none 0 0] 46)
    generalize (w1.alloc (.cells #[.int .i64 x0, .int .i64 x1, .int .u64 x2, .int .u64 x3, .slice x4 x5 x6, .slice x7 x8 x9] 42)).alloc (.cells #[.int .i64 0, .bool false, .int .i64 0, .int .u64 0, .slice none 0 0] 46) = w2 at *
    replace hgr := Nat.le_trans hgr hx.size
    generalize w1.heap.size = g14 at *
    replace hown := hown.ext hx
    replace y0 := hx.cell y0
    replace y1 := hx.cell y1
    replace y2 := hx.cell y2
    replace y3 := hx.cell y3
    replace y4 := hx.cell y4
    replace y5 := hx.cell y5
    replace hbx := hbx.ext hx
    replace hby := hby.ext hx
    replace hWr := hWr.trans hx
    clear hx
    have hX : ∀ wx, Ext w2 wx → (wx.cell? ⟨g14, 0, none⟩ = some (.int .i64 x0) ∧ wx.cell? ⟨g14, 1, none⟩ = some (.int .i64 x1) ∧ wx.cell? ⟨g14, 2, none⟩ = some (.int .u64 x2) ∧ wx.cell? ⟨g14, 3, none⟩ = some (.int .u64 x3) ∧ wx.cell? ⟨g14, 4, none⟩ = some (.slice x4 x5 x6) ∧ wx.cell? ⟨g14, 5, none⟩ = some (.slice x7 x8 x9)) ∧ wx.cell? (a.add (j * 6)) = some (.int .i64 x0) ∧ wx.cell? ⟨(a.add (j * 6)).block, (a.add (j * 6)).off + 1, none⟩ = some (.int .i64 x1) ∧ wx.cell? ⟨(a.add (j * 6)).block, (a.add (j * 6)).off + 2, none⟩ = some (.int .u64 x2) ∧ wx.cell? ⟨(a.add (j * 6)).block, (a.add (j * 6)).off + 3, none⟩ = some (.int .u64 x3) ∧ wx.cell? ⟨(a.add (j * 6)).block, (a.add (j * 6)).off + 4, none⟩ = some (.slice x4 x5 x6) ∧ wx.cell? ⟨(a.add (j * 6)).block, (a.add (j * 6)).off + 5, none⟩ = some (.slice x7 x8 x9) := fun wx hx =>
     ⟨⟨hx.cell (by simp [World.cell?, hA14]), hx.cell (by simp [World.cell?, hA14]), hx.cell (by simp [World.cell?, hA14]), hx.cell (by simp [World.cell?, hA14]), hx.cell (by simp [World.cell?, hA14]), hx.cell (by simp [World.cell?, hA14])⟩, hx.cell y0, hx.cell y1, hx.cell y2, hx.cell y3, hx.cell y4, hx.cell y5⟩
    have HOK := Lib.hid (hok.ext hWr)
    refine' wp_region_sure_all ⟨((some 71, [], none) :: (some 72, [0], none) :: (some 73, [1], some (1, false)) :: (some 74, [1], some (1, false)) :: (some 75, [1], some (1, false)) :: (some 76, [3, 4, 1], some (1, false)) :: (some 77, [5, 1], some (1, false)) :: (some 78, [2, 6, 1, 1], some (1, false)) :: (some 79, [7, 1], some (1, false)) :: (some 80, [1, 8], none) :: []), (0 :: 1 :: 3 :: 3 :: 3 :: 27 :: 59 :: 127 :: 255 :: 511 :: []), (true :: true :: true :: true :: true :: true :: true :: true :: true :: true :: []), [], 0⟩ 10 159 ((0, 71) :: (1, 72) :: (2, 73) :: (3, 74) :: (4, 75) :: (5, 76) :: (6, 77) :: (7, 78) :: (8, 79) :: (9, 80) :: []) ((0, 71) :: (1, 72) :: (2, 73) :: (3, 74) :: (4, 75) :: (5, 76) :: (6, 77) :: (7, 78) :: (8, 79) :: (9, 80) :: []) (.det _ :: .det _ :: .det _ :: .det _ :: .det _ :: .det _ :: .det _ :: .det _ :: .det _ :: .det _ :: []) (by kernel_rfl) (by kernel_rfl) (by kernel_rfl) rfl (by kernel_rfl) (by kernel_rfl) rfl (by kernel_rfl) ?hone ?hend
    case hone =>
     intro CS frS VS hCS ha hV
     have qs3 := slot_val (t := 3) ha rfl
     simp only [List.getElem_toArray, List.getElem_cons_succ, List.getElem_cons_zero] at qs3
     have qs12 := slot_val (t := 12) ha rfl
     simp only [List.getElem_toArray, List.getElem_cons_succ, List.getElem_cons_zero] at qs12
     have qs14 := slot_val (t := 14) ha rfl
     simp only [List.getElem_toArray, List.getElem_cons_succ, List.getElem_cons_zero] at qs14
     have qs16 := slot_val (t := 16) ha rfl
     simp only [List.getElem_toArray, List.getElem_cons_succ, List.getElem_cons_zero] at qs16
     have HCS := Lib.hid hCS
     have HVS := Lib.hid hV
     clear ha hCS hV
     refine sure_det (js := []) (ts := [16]) (gd := none) (place_at HVS.out (k := 0) rfl) (by rw [HCS.out]; kernel_rfl) ?_ ?_
     ·intro wx hx ρ hρ hs hf; have hρc := hρ.const; have hρf := hρ.func
      obtain ⟨fx16, -⟩ := hf; rw [qs16] at fx16
      clear hs
      clear HCS HVS qs3 qs12 qs14 qs16
      refine run_plain ?_
      refine op_move rfl fx16 ?_
      exact detK.mk
     refine sure_det (js := [(0, 71)]) (ts := []) (gd := none) (place_at HVS.out (k := 1) rfl) (by rw [HCS.out]; kernel_rfl) ?_ ?_
     ·intro wx hx ρ hρ hs hf; have hρc := hρ.const; have hρf := hρ.func; obtain ⟨sn0, -⟩ := hs; rw [place_at HVS.out (k := 0) rfl] at sn0; replace sn0 : ρ (.tmp 71) = _ := sn0
      clear hf
      clear HCS HVS qs3 qs12 qs14 qs16
      refine run_plain ?_
      refine op_move rfl sn0 ?_
      exact detK.mk
     refine sure_det (js := [(1, 72)]) (ts := [14]) (gd := (some (72, false))) (place_at HVS.out (k := 2) rfl) (by rw [HCS.out]; kernel_rfl) ?_ ?_
     ·intro wx hx ρ hρ hs hf; have hρc := hρ.const; have hρf := hρ.func; obtain ⟨sn1, -⟩ := hs
      obtain ⟨fx14, -⟩ := hf; rw [qs14] at fx14; rw [place_at HVS.out (k := 1) rfl] at sn1; replace sn1 : ρ (.tmp 72) = _ := sn1
      clear HCS HVS qs3 qs12 qs14 qs16
      first
       | (refine run_passed sn1 ?_; exact detK.mk)
       | (refine run_undef sn1 ?_; exact detK.mk)
       | (refine run_guarded sn1 ?_; obtain ⟨⟨u0, u1, u2, u3, u4, u5⟩, v0, v1, v2, v3, v4, v5⟩ := hX wx hx.drawn; unfold runs; go_simp; exact detK.mk)
     refine sure_det (js := [(1, 72)]) (ts := [3]) (gd := (some (72, false))) (place_at HVS.out (k := 3) rfl) (by rw [HCS.out]; kernel_rfl) ?_ ?_
     ·intro wx hx ρ hρ hs hf; have hρc := hρ.const; have hρf := hρ.func; obtain ⟨sn1, -⟩ := hs
      obtain ⟨fx3, -⟩ := hf; rw [qs3] at fx3; rw [place_at HVS.out (k := 1) rfl] at sn1; replace sn1 : ρ (.tmp 72) = _ := sn1
      clear HCS HVS qs3 qs12 qs14 qs16
      first
       | (refine run_passed sn1 ?_; exact detK.mk)
       | (refine run_undef sn1 ?_; exact detK.mk)
       | (refine run_guarded sn1 ?_; refine op_move rfl fx3 ?_; exact detK.mk)
     refine sure_det (js := [(1, 72)]) (ts := [12]) (gd := (some (72, false))) (place_at HVS.out (k := 4) rfl) (by rw [HCS.out]; kernel_rfl) ?_ ?_
     ·intro wx hx ρ hρ hs hf; have hρc := hρ.const; have hρf := hρ.func; obtain ⟨sn1, -⟩ := hs
      obtain ⟨fx12, -⟩ := hf; rw [qs12] at fx12; rw [place_at HVS.out (k := 1) rfl] at sn1; replace sn1 : ρ (.tmp 72) = _ := sn1
      clear HCS HVS qs3 qs12 qs14 qs16
      first
       | (refine run_passed sn1 ?_; exact detK.mk)
       | (refine run_undef sn1 ?_; exact detK.mk)
       | (refine run_guarded sn1 ?_; refine op_move rfl fx12 ?_; exact detK.mk)
     refine sure_det (js := [(3, 74), (4, 75), (1, 72)]) (ts := []) (gd := (some (72, false))) (place_at HVS.out (k := 5) rfl) (by rw [HCS.out]; kernel_rfl) ?_ ?_
     ·intro wx hx ρ hρ hs hf; have hρc := hρ.const; have hρf := hρ.func; obtain ⟨sn3, sn4, sn1, -⟩ := hs; rw [place_at HVS.out (k := 3) rfl] at sn3; replace sn3 : ρ (.tmp 74) = _ := sn3; rw [place_at HVS.out (k := 4) rfl] at sn4; replace sn4 : ρ (.tmp 75) = _ := sn4; rw [place_at HVS.out (k := 1) rfl] at sn1; replace sn1 : ρ (.tmp 72) = _ := sn1
      clear hf
      clear HCS HVS qs3 qs12 qs14 qs16
      first
       | (refine run_passed sn1 ?_; exact detK.mk)
       | (refine run_undef sn1 ?_; exact detK.mk)
       | (refine run_guarded sn1 ?_; unfold runs; go_simp; exact detK.mk)
     refine sure_det (js := [(5, 76), (1, 72)]) (ts := []) (gd := (some (72, false))) (place_at HVS.out (k := 6) rfl) (by rw [HCS.out]; kernel_rfl) ?_ ?_
     ·intro wx hx ρ hρ hs hf; have hρc := hρ.const; have hρf := hρ.func; obtain ⟨sn5, sn1, -⟩ := hs; rw [place_at HVS.out (k := 5) rfl] at sn5; replace sn5 : ρ (.tmp 76) = _ := sn5; rw [place_at HVS.out (k := 1) rfl] at sn1; replace sn1 : ρ (.tmp 72) = _ := sn1
      clear hf
      clear HCS HVS qs3 qs12 qs14 qs16
      first
       | (refine run_passed sn1 ?_; exact detK.mk)
       | (refine run_undef sn1 ?_; exact detK.mk)
       | (refine run_guarded sn1 ?_; obtain ⟨⟨u0, u1, u2, u3, u4, u5⟩, v0, v1, v2, v3, v4, v5⟩ := hX wx hx.drawn; unfold runs; go_simp; exact detK.mk)
     refine sure_det (js := [(2, 73), (6, 77), (1, 72)]) (ts := []) (gd := (some (72, false))) (place_at HVS.out (k := 7) rfl) (by rw [HCS.out]; kernel_rfl) ?_ ?_
     ·intro wx hx ρ hρ hs hf; have hρc := hρ.const; have hρf := hρ.func; obtain ⟨sn2, sn6, sn1, -⟩ := hs; rw [place_at HVS.out (k := 2) rfl] at sn2; replace sn2 : ρ (.tmp 73) = _ := sn2; rw [place_at HVS.out (k := 6) rfl] at sn6; replace sn6 : ρ (.tmp 77) = _ := sn6; rw [place_at HVS.out (k := 1) rfl] at sn1; replace sn1 : ρ (.tmp 72) = _ := sn1
      clear hf
      clear HCS HVS qs3 qs12 qs14 qs16
      first
       | (refine run_passed sn1 ?_; exact detK.mk)
       | (refine run_undef sn1 ?_; exact detK.mk)
       | (refine run_guarded sn1 ?_; refine op_call rfl hρ Try.call18 (map_two sn2 sn6) ?_; ((with_reducible refine Calls.mono (asks_lit _ (HOK.out.ext hx.drawn) hwk6) ?_); rintro e w' ⟨rfl, hx5⟩; refine ⟨_, rfl, ?_⟩; exact detK.ext hx5))
     refine sure_det (js := [(7, 78), (1, 72)]) (ts := []) (gd := (some (72, false))) (place_at HVS.out (k := 8) rfl) (by rw [HCS.out]; kernel_rfl) ?_ ?_
     ·intro wx hx ρ hρ hs hf; have hρc := hρ.const; have hρf := hρ.func; obtain ⟨sn7, sn1, -⟩ := hs; rw [place_at HVS.out (k := 7) rfl] at sn7; replace sn7 : ρ (.tmp 78) = _ := sn7; rw [place_at HVS.out (k := 1) rfl] at sn1; replace sn1 : ρ (.tmp 72) = _ := sn1
      clear hf
      clear HCS HVS qs3 qs12 qs14 qs16
      first
       | (refine run_passed sn1 ?_; exact detK.mk)
       | (refine run_undef sn1 ?_; exact detK.mk)
       | (refine run_guarded sn1 ?_; unfold runs; go_simp; exact detK.mk)
     refine sure_det (js := [(1, 72), (8, 79)]) (ts := []) (gd := none) (place_at HVS.out (k := 9) rfl) (by rw [HCS.out]; kernel_rfl) ?_ ?_
     ·intro wx hx ρ hρ hs hf; have hρc := hρ.const; have hρf := hρ.func; obtain ⟨sn1, sn8, -⟩ := hs; rw [place_at HVS.out (k := 1) rfl] at sn1; replace sn1 : ρ (.tmp 72) = _ := sn1; rw [place_at HVS.out (k := 8) rfl] at sn8; replace sn8 : ρ (.tmp 79) = _ := sn8
      clear hf
      clear HCS HVS qs3 qs12 qs14 qs16
      refine run_plain ?_
      first | refine op_pick_t rfl sn1 (hρ.const _) ?_ | refine op_pick_f rfl sn1 sn8 ?_
      exact detK.mk
     exact trivial
    case hend =>
     intro xs wx hx hg
     have gk0 : xs 0 = _ := goods_get hg (i := 0) (j := 0) (d := 71) rfl
     have gk1 : xs 1 = _ := goods_get hg (i := 1) (j := 1) (d := 72) rfl
     have gk2 : xs 2 = _ := goods_get hg (i := 2) (j := 2) (d := 73) rfl
     have gk3 : xs 3 = _ := goods_get hg (i := 3) (j := 3) (d := 74) rfl
     have gk4 : xs 4 = _ := goods_get hg (i := 4) (j := 4) (d := 75) rfl
     have gk5 : xs 5 = _ := goods_get hg (i := 5) (j := 5) (d := 76) rfl
     have gk6 : xs 6 = _ := goods_get hg (i := 6) (j := 6) (d := 77) rfl
     have gk7 : xs 7 = _ := goods_get hg (i := 7) (j := 7) (d := 78) rfl
     have gk8 : xs 8 = _ := goods_get hg (i := 8) (j := 8) (d := 79) rfl
     have gk9 : xs 9 = _ := goods_get hg (i := 9) (j := 9) (d := 80) rfl
     clear hg
     simp only [putAll, gk0, gk1, gk2, gk3, gk4, gk5, gk6, gk7, gk8, gk9]
     clear gk0 gk1 gk2 gk3 gk4 gk5 gk6 gk7 gk8 gk9
     clear xs
     simp only [Act.put, List.setIfInBounds_toArray, List.set_cons_zero, List.set_cons_succ]
     clear hX
     go_upto_region 19 with (fail)
     have hx_ := hx.drawn
     replace hown := hown.ext hx_
     replace hgr := Nat.le_trans hgr hx_.size
     replace y0 := hx_.cell y0
     replace y1 := hx_.cell y1
     replace y2 := hx_.cell y2
     replace y3 := hx_.cell y3
     replace y4 := hx_.cell y4
     replace y5 := hx_.cell y5
     replace hA14 := heap_ext hA14 hx_
     replace hbx := hbx.ext hx_
     replace hby := hby.ext hx_
     replace hWr := hWr.trans hx_
     clear hx_ hx HOK
     obtain ⟨bA, bq, bc, bB, bb, bC, bd, hbx0, hbxV⟩ := hbx.form
     have e0 : wx.cell? ⟨gx, 0, none⟩ = some (.int .i64 Xj.T) := by simp [World.cell?, hbx0]
     have e1 : wx.cell? ⟨gx, 1, none⟩ = some (.int .i64 Xj.C) := by simp [World.cell?, hbx0]
     have e2 : wx.cell? ⟨gx, 2, none⟩ = some (.slice bA bq bc) := by simp [World.cell?, hbx0]
     have e3 : wx.cell? ⟨gx, 3, none⟩ = some (.int .u64 Xj.R) := by simp [World.cell?, hbx0]
     have e4 : wx.cell? ⟨gx, 4, none⟩ = some (.slice bB Xj.n bb) := by simp [World.cell?, hbx0]
     have e5 : wx.cell? ⟨gx, 5, none⟩ = some (.slice bC Xj.n bd) := by simp [World.cell?, hbx0]
     have f0 : wx.cell? ⟨g14, 0, none⟩ = some (.int .i64 x0) := by simp [World.cell?, hA14]
     have f1 : wx.cell? ⟨g14, 1, none⟩ = some (.int .i64 x1) := by simp [World.cell?, hA14]
     have f2 : wx.cell? ⟨g14, 2, none⟩ = some (.int .u64 x2) := by simp [World.cell?, hA14]
     have f3 : wx.cell? ⟨g14, 3, none⟩ = some (.int .u64 x3) := by simp [World.cell?, hA14]
     have f4 : wx.cell? ⟨g14, 4, none⟩ = some (.slice x4 x5 x6) := by simp [World.cell?, hA14]
     have f5 : wx.cell? ⟨g14, 5, none⟩ = some (.slice x7 x8 x9) := by simp [World.cell?, hA14]
     go_wp2_with fail
     refine (rdo_all _ _ Xj me K _ _ hbxV (hKV.ext hWr) (hFj.le_ (by unfold useM; split <;> omega))).mono ?_
     rintro e u1 ⟨v1, r1, rfl, hV1, hR1, hx⟩
     rw [HX1.out] at hV1
     rw [HR1.out] at hR1
     obtain ⟨zA, zq, zc, zB, zb, zC, zd, rfl⟩ := hV1.form6
     obtain ⟨yS, ys, yt, rfl, -⟩ := hR1
     clear hbxV hbx0
     clear e0 e1 e2 e3 e4 e5 f0 f1 f2 f3 f4 f5
     replace hown := hown.ext hx
     replace hgr := Nat.le_trans hgr hx.size
     replace y0 := hx.cell y0
     replace y1 := hx.cell y1
     replace y2 := hx.cell y2
     replace y3 := hx.cell y3
     replace y4 := hx.cell y4
     replace y5 := hx.cell y5
     replace hA14 := heap_ext hA14 hx
     replace hbx := hbx.ext hx
     replace hby := hby.ext hx
     replace hWr := hWr.trans hx
     clear hx
     go_upto_region 20 with (fail)
     obtain ⟨hx, h17, h18⟩ := two_boxes7 u1 (.cells #[.int .i64 X1.T, .int .i64 X1.C, .slice zA zq zc, .int .u64 X1.R, .slice zB X1.n zb, .slice zC X1.n zd] 32) (.cells #[.int .u64 R1.N, .slice yS ys yt, .bool R1.fail] 51)
     generalize (u1.alloc (.cells #[.int .i64 X1.T, .int .i64 X1.C, .slice zA zq zc, .int .u64 X1.R, .slice zB X1.n zb, .slice zC X1.n zd] 32)).alloc (.cells #[.int .u64 R1.N, .slice yS ys yt, .bool R1.fail] 51) = u2 at *
     have hg17 := hgr
     replace hgr := Nat.le_trans hgr hx.size
     generalize u1.heap.size = g17 at *
     replace hown := hown.ext hx
     replace y0 := hx.cell y0
     replace y1 := hx.cell y1
     replace y2 := hx.cell y2
     replace y3 := hx.cell y3
     replace y4 := hx.cell y4
     replace y5 := hx.cell y5
     replace hA14 := heap_ext hA14 hx
     replace hbx := hbx.ext hx
     replace hby := hby.ext hx
     replace hV1 := hV1.ext hx
     replace hWr := hWr.trans hx
     clear hx hA14
     obtain ⟨dA, dq, dc, dB, db, dC, dd, hby0, hbyV⟩ := hby.form
     obtain ⟨bA, bq, bc, bB, bb, bC, bd, hbx0, hbxV⟩ := hbx.form
     have hX : ∀ wx, Ext u2 wx → (wx.cell? ⟨gy, 0, none⟩ = some (.int .i64 Xj.T) ∧ wx.cell? ⟨gy, 1, none⟩ = some (.int .i64 Xj.C) ∧ wx.cell? ⟨gy, 2, none⟩ = some (.slice dA dq dc) ∧ wx.cell? ⟨gy, 3, none⟩ = some (.int .u64 Xj.R) ∧ wx.cell? ⟨gy, 4, none⟩ = some (.slice dB Xj.n db) ∧ wx.cell? ⟨gy, 5, none⟩ = some (.slice dC Xj.n dd)) ∧ wx.cell? (a.add (j * 6)) = some (.int .i64 x0) ∧ wx.cell? ⟨(a.add (j * 6)).block, (a.add (j * 6)).off + 1, none⟩ = some (.int .i64 x1) ∧ wx.cell? ⟨(a.add (j * 6)).block, (a.add (j * 6)).off + 2, none⟩ = some (.int .u64 x2) ∧ wx.cell? ⟨(a.add (j * 6)).block, (a.add (j * 6)).off + 3, none⟩ = some (.int .u64 x3) ∧ wx.cell? ⟨(a.add (j * 6)).block, (a.add (j * 6)).off + 4, none⟩ = some (.slice x4 x5 x6) ∧ wx.cell? ⟨(a.add (j * 6)).block, (a.add (j * 6)).off + 5, none⟩ = some (.slice x7 x8 x9) := fun wx hx =>
      ⟨⟨hx.cell (by simp [World.cell?, hby0]), hx.cell (by simp [World.cell?, hby0]), hx.cell (by simp [World.cell?, hby0]), hx.cell (by simp [World.cell?, hby0]), hx.cell (by simp [World.cell?, hby0]), hx.cell (by simp [World.cell?, hby0])⟩, hx.cell y0, hx.cell y1, hx.cell y2, hx.cell y3, hx.cell y4, hx.cell y5⟩
     have HBX := Lib.hid hbx0
     have HBY := Lib.hid hby0
     have H17 := Lib.hid h17
     have H18 := Lib.hid h18
     have HWR := Lib.hid hWr
     have HOWN := Lib.hid hown
     have HGR := Lib.hid hgr
     have HV1 := Lib.hid hV1
     clear hbx0 hby0 h17 h18 hWr hown hgr hV1 hbx hby hbxV y0 y1 y2 y3 y4 y5
     refine' wp_region_late 10 [(8, 89)] ⟨((some 90, [], none) :: (some 91, [], none) :: (some 92, [], none) :: (some 93, [], none) :: (some 94, [2, 3], none) :: (some 95, [4], none) :: (some 96, [], none) :: (some 97, [0, 1, 5, 6], none) :: (some 89, [7], none) :: (some 98, [8], none) :: (some 99, [8], none) :: (some 19, [], none) :: (some 20, [], none) :: (none, [11, 9, 7, 0, 1, 2, 3, 4, 5, 6, 7, 8, 9, 11, 12], none) :: (none, [12, 10, 13, 0, 1, 2, 3, 4, 5, 6, 7, 8, 9, 10, 11, 12, 13], none) :: []), (0 :: 0 :: 0 :: 0 :: 12 :: 28 :: 0 :: 127 :: 255 :: 511 :: 511 :: 0 :: 0 :: 7167 :: 16383 :: []), (true :: true :: true :: true :: true :: true :: true :: false :: false :: false :: false :: true :: true :: []), [], 0⟩ 13 159 ((0, 90) :: (1, 91) :: (2, 92) :: (3, 93) :: (4, 94) :: (5, 95) :: (6, 96) :: (7, 97) :: (8, 89) :: (9, 98) :: (10, 99) :: (11, 19) :: (12, 20) :: []) ((0, 90) :: (1, 91) :: (2, 92) :: (3, 93) :: (4, 94) :: (5, 95) :: (6, 96) :: (7, 97) :: (8, 89) :: (9, 98) :: (10, 99) :: (11, 19) :: (12, 20) :: []) (.det _ :: .det _ :: .det _ :: .det _ :: .det _ :: .det _ :: .det _ :: Good.of (fun v w => ∃ v1 r1, v = .tuple #[v1, r1] ∧ WldV w v1 X1 ∧ ResV w r1 R1) (fun v w w' h hx => let ⟨v1, r1, e, h1, h2⟩ := h; ⟨v1, r1, e, h1.ext hx, h2.ext hx⟩) :: Good.of (fun v w => ∃ v1 r1, v = .tuple #[v1, r1] ∧ WldV w v1 X1 ∧ ResV w r1 R1) (fun v w w' h hx => let ⟨v1, r1, e, h1, h2⟩ := h; ⟨v1, r1, e, h1.ext hx, h2.ext hx⟩) :: Good.of (fun v w => WldV w v X1) (fun v w w' h hx => h.ext hx) :: Good.of (fun v w => ResV w v R1) (fun v w w' h hx => h.ext hx) :: Good.box 32 #[.int .i64 0, .int .i64 0, .slice none 0 0, .int .u64 0, .slice none 0 0, .slice none 0 0] u2.heap.size :: Good.box 51 #[.int .u64 0, .slice none 0 0, .bool false] u2.heap.size :: []) (by kernel_rfl) (by kernel_rfl) (by kernel_rfl) rfl (by kernel_rfl) (by kernel_rfl) rfl (by kernel_rfl) (by kernel_rfl) (by kernel_rfl) rfl (fun _ _ _ _ _ h => h) ?hlate ?hone ?hend
     case hlate =>
      intro V hV wx hx ρ hρ hs o ho; obtain ⟨sn8, -⟩ := hs; rw [place_at hV (k := 8) rfl] at sn8; rw [place_at hV (k := 10) rfl]
      obtain rfl := Option.some.inj ho
      obtain ⟨v1, r1, e, h1, h2⟩ := sn8
      refine ⟨r1, fun w'' => ?_, h2⟩
      go_simp
     case hone =>
      intro CS frS VS hCS ha hV
      have qs3 := slot_val (t := 3) ha rfl
      simp only [List.getElem_toArray, List.getElem_cons_succ, List.getElem_cons_zero] at qs3
      have qs5 := slot_val (t := 5) ha rfl
      simp only [List.getElem_toArray, List.getElem_cons_succ, List.getElem_cons_zero] at qs5
      have qs9 := slot_val (t := 9) ha rfl
      simp only [List.getElem_toArray, List.getElem_cons_succ, List.getElem_cons_zero] at qs9
      have qs12 := slot_val (t := 12) ha rfl
      simp only [List.getElem_toArray, List.getElem_cons_succ, List.getElem_cons_zero] at qs12
      have qs13 := slot_val (t := 13) ha rfl
      simp only [List.getElem_toArray, List.getElem_cons_succ, List.getElem_cons_zero] at qs13
      have HCS := Lib.hid hCS
      have HVS := Lib.hid hV
      clear ha hCS hV
      refine sure_det (js := []) (ts := [9]) (gd := none) (place_at HVS.out (k := 0) rfl) (by rw [HCS.out]; kernel_rfl) ?_ ?_
      ·intro wx hx ρ hρ hs hf; have hρc := hρ.const; have hρf := hρ.func
       obtain ⟨fx9, -⟩ := hf; rw [qs9] at fx9
       clear hs
       clear HCS HVS qs3 qs5 qs9 qs12 qs13
       refine run_plain ?_
       obtain ⟨⟨p0, p1, p2, p3, p4, p5⟩, v0, v1, v2, v3, v4, v5⟩ := hX wx hx.drawn
       unfold runs
       go_simp
       exact detK.mk
      refine sure_det (js := []) (ts := [5]) (gd := none) (place_at HVS.out (k := 1) rfl) (by rw [HCS.out]; kernel_rfl) ?_ ?_
      ·intro wx hx ρ hρ hs hf; have hρc := hρ.const; have hρf := hρ.func
       obtain ⟨fx5, -⟩ := hf; rw [qs5] at fx5
       clear hs
       clear HCS HVS qs3 qs5 qs9 qs12 qs13
       refine run_plain ?_
       refine op_move rfl fx5 ?_
       exact detK.mk
      refine sure_det (js := []) (ts := [3]) (gd := none) (place_at HVS.out (k := 2) rfl) (by rw [HCS.out]; kernel_rfl) ?_ ?_
      ·intro wx hx ρ hρ hs hf; have hρc := hρ.const; have hρf := hρ.func
       obtain ⟨fx3, -⟩ := hf; rw [qs3] at fx3
       clear hs
       clear HCS HVS qs3 qs5 qs9 qs12 qs13
       refine run_plain ?_
       refine op_move rfl fx3 ?_
       exact detK.mk
      refine sure_det (js := []) (ts := [12]) (gd := none) (place_at HVS.out (k := 3) rfl) (by rw [HCS.out]; kernel_rfl) ?_ ?_
      ·intro wx hx ρ hρ hs hf; have hρc := hρ.const; have hρf := hρ.func
       obtain ⟨fx12, -⟩ := hf; rw [qs12] at fx12
       clear hs
       clear HCS HVS qs3 qs5 qs9 qs12 qs13
       refine run_plain ?_
       refine op_move rfl fx12 ?_
       exact detK.mk
      refine sure_det (js := [(2, 92), (3, 93)]) (ts := []) (gd := none) (place_at HVS.out (k := 4) rfl) (by rw [HCS.out]; kernel_rfl) ?_ ?_
      ·intro wx hx ρ hρ hs hf; have hρc := hρ.const; have hρf := hρ.func; obtain ⟨sn2, sn3, -⟩ := hs; rw [place_at HVS.out (k := 2) rfl] at sn2; replace sn2 : ρ (.tmp 92) = _ := sn2; rw [place_at HVS.out (k := 3) rfl] at sn3; replace sn3 : ρ (.tmp 93) = _ := sn3
       clear hf
       clear HCS HVS qs3 qs5 qs9 qs12 qs13
       refine run_plain ?_
       unfold runs
       go_simp
       exact detK.mk
      refine sure_det (js := [(4, 94)]) (ts := []) (gd := none) (place_at HVS.out (k := 5) rfl) (by rw [HCS.out]; kernel_rfl) ?_ ?_
      ·intro wx hx ρ hρ hs hf; have hρc := hρ.const; have hρf := hρ.func; obtain ⟨sn4, -⟩ := hs; rw [place_at HVS.out (k := 4) rfl] at sn4; replace sn4 : ρ (.tmp 94) = _ := sn4
       clear hf
       clear HCS HVS qs3 qs5 qs9 qs12 qs13
       refine run_plain ?_
       obtain ⟨⟨p0, p1, p2, p3, p4, p5⟩, v0, v1, v2, v3, v4, v5⟩ := hX wx hx.drawn
       unfold runs
       go_simp
       exact detK.mk
      refine sure_det (js := []) (ts := [13]) (gd := none) (place_at HVS.out (k := 6) rfl) (by rw [HCS.out]; kernel_rfl) ?_ ?_
      ·intro wx hx ρ hρ hs hf; have hρc := hρ.const; have hρf := hρ.func
       obtain ⟨fx13, -⟩ := hf; rw [qs13] at fx13
       clear hs
       clear HCS HVS qs3 qs5 qs9 qs12 qs13
       refine run_plain ?_
       refine op_move rfl fx13 ?_
       exact detK.mk
      refine sure_op (js := [(0, 90), (1, 91), (5, 95), (6, 96)]) (ts := []) (gd := none) (place_at HVS.out (k := 7) rfl) (by rw [HCS.out]; kernel_rfl) ?_ ?_
      ·intro wx hx ρ hρ hs hf; have hρc := hρ.const; have hρf := hρ.func; obtain ⟨sn0, sn1, sn5, sn6, -⟩ := hs; rw [place_at HVS.out (k := 0) rfl] at sn0; replace sn0 : ρ (.tmp 90) = _ := sn0; rw [place_at HVS.out (k := 1) rfl] at sn1; replace sn1 : ρ (.tmp 91) = _ := sn1; rw [place_at HVS.out (k := 5) rfl] at sn5; replace sn5 : ρ (.tmp 95) = _ := sn5; rw [place_at HVS.out (k := 6) rfl] at sn6; replace sn6 : ρ (.tmp 96) = _ := sn6
       clear hf
       clear HCS HVS qs3 qs5 qs9 qs12 qs13
       refine run_plain ?_
       refine op_call rfl hρ Try.call20 (map_four sn0 sn1 sn5 sn6) ?_
       refine Calls.mono (do_all _ _ Xj me K _ _ (hbyV.ext hx.drawn) ((hKV.ext HWR.out).ext hx.drawn) (hFj.le_ (by unfold useM; split <;> omega))) ?_
       rintro e w' ⟨v1, r1, rfl, h1, h2, hx5⟩
       rw [HX1.out] at h1
       rw [HR1.out] at h2
       exact ⟨_, rfl, hx5, v1, r1, rfl, h1, h2⟩
      refine sure_op (js := [(7, 97)]) (ts := []) (gd := none) (place_at HVS.out (k := 8) rfl) (by rw [HCS.out]; kernel_rfl) ?_ ?_
      ·intro wx hx ρ hρ hs hf; have hρc := hρ.const; have hρf := hρ.func; obtain ⟨sn7, -⟩ := hs; rw [place_at HVS.out (k := 7) rfl] at sn7; replace sn7 : ∃ v1 r1, (ρ (.tmp 97)) = .tuple #[v1, r1] ∧ WldV wx v1 X1 ∧ ResV wx r1 R1 := sn7
       clear hf
       clear HCS HVS qs3 qs5 qs9 qs12 qs13
       refine run_plain ?_
       refine op_move rfl rfl ?_
       exact ⟨Ext.refl _, sn7⟩
      refine sure_op (js := [(8, 89)]) (ts := []) (gd := none) (place_at HVS.out (k := 9) rfl) (by rw [HCS.out]; kernel_rfl) ?_ ?_
      ·intro wx hx ρ hρ hs hf; have hρc := hρ.const; have hρf := hρ.func; obtain ⟨sn8, -⟩ := hs; rw [place_at HVS.out (k := 8) rfl] at sn8; replace sn8 : ∃ v1 r1, (ρ (.tmp 89)) = .tuple #[v1, r1] ∧ WldV wx v1 X1 ∧ ResV wx r1 R1 := sn8
       clear hf
       clear HCS HVS qs3 qs5 qs9 qs12 qs13
       refine run_plain ?_
       obtain ⟨v1, r1, e, h1, h2⟩ := sn8
       unfold runs
       go_simp
       exact ⟨Ext.refl _, h1⟩
      refine sure_op (js := [(8, 89)]) (ts := []) (gd := none) (place_at HVS.out (k := 10) rfl) (by rw [HCS.out]; kernel_rfl) ?_ ?_
      ·intro wx hx ρ hρ hs hf; have hρc := hρ.const; have hρf := hρ.func; obtain ⟨sn8, -⟩ := hs; rw [place_at HVS.out (k := 8) rfl] at sn8; replace sn8 : ∃ v1 r1, (ρ (.tmp 89)) = .tuple #[v1, r1] ∧ WldV wx v1 X1 ∧ ResV wx r1 R1 := sn8
       clear hf
       clear HCS HVS qs3 qs5 qs9 qs12 qs13
       refine run_plain ?_
       obtain ⟨v1, r1, e, h1, h2⟩ := sn8
       unfold runs
       go_simp
       exact ⟨Ext.refl _, h2⟩
      refine sure_op (js := []) (ts := []) (gd := none) (place_at HVS.out (k := 11) rfl) (by rw [HCS.out]; kernel_rfl) ?_ ?_
      ·intro wx hx ρ hρ hs hf; have hρc := hρ.const; have hρf := hρ.func
       clear hs
       clear hf
       clear HCS HVS qs3 qs5 qs9 qs12 qs13
       refine run_plain ?_
       refine op_alloc rfl (Try.zeroValue32 _) ?_
       exact ⟨Ext.refl _ |>.alloc (Nat.le_refl _) _, wx.heap.size, rfl, hx.size, heap_alloc_new wx _⟩
      refine sure_op (js := []) (ts := []) (gd := none) (place_at HVS.out (k := 12) rfl) (by rw [HCS.out]; kernel_rfl) ?_ ?_
      ·intro wx hx ρ hρ hs hf; have hρc := hρ.const; have hρf := hρ.func
       clear hs
       clear hf
       clear HCS HVS qs3 qs5 qs9 qs12 qs13
       refine run_plain ?_
       refine op_alloc rfl (Try.zeroValue51 _) ?_
       exact ⟨Ext.refl _ |>.alloc (Nat.le_refl _) _, wx.heap.size, rfl, hx.size, heap_alloc_new wx _⟩
      exact trivial
     case hend =>
      intro xs wx hx hg
      have gk0 : xs 0 = _ := goods_get hg (i := 0) (j := 0) (d := 90) rfl
      have gk1 : xs 1 = _ := goods_get hg (i := 1) (j := 1) (d := 91) rfl
      have gk2 : xs 2 = _ := goods_get hg (i := 2) (j := 2) (d := 92) rfl
      have gk3 : xs 3 = _ := goods_get hg (i := 3) (j := 3) (d := 93) rfl
      have gk4 : xs 4 = _ := goods_get hg (i := 4) (j := 4) (d := 94) rfl
      have gk5 : xs 5 = _ := goods_get hg (i := 5) (j := 5) (d := 95) rfl
      have gk6 : xs 6 = _ := goods_get hg (i := 6) (j := 6) (d := 96) rfl
      have gk7 : ∃ v1 r1, (xs 7) = .tuple #[v1, r1] ∧ WldV wx v1 X1 ∧ ResV wx r1 R1 := goods_get hg (i := 7) (j := 7) (d := 97) rfl
      have gk8 : ∃ v1 r1, (xs 8) = .tuple #[v1, r1] ∧ WldV wx v1 X1 ∧ ResV wx r1 R1 := goods_get hg (i := 8) (j := 8) (d := 89) rfl
      have gk9 : WldV wx (xs 9) X1 := goods_get hg (i := 9) (j := 9) (d := 98) rfl
      have gk10 : ResV wx (xs 10) R1 := goods_get hg (i := 10) (j := 10) (d := 99) rfl
      have gk11 : boxG 32 #[.int .i64 0, .int .i64 0, .slice none 0 0, .int .u64 0, .slice none 0 0, .slice none 0 0] u2.heap.size (xs 11) wx := goods_get hg (i := 11) (j := 11) (d := 19) rfl
      have gk12 : boxG 51 #[.int .u64 0, .slice none 0 0, .bool false] u2.heap.size (xs 12) wx := goods_get hg (i := 12) (j := 12) (d := 20) rfl
      clear hg
      simp only [putAll, gk0, gk1, gk2, gk3, gk4, gk5, gk6]
      clear gk0 gk1 gk2 gk3 gk4 gk5 gk6
      generalize xs 7 = vx7 at gk7 ⊢
      generalize xs 8 = vx8 at gk8 ⊢
      generalize xs 9 = vx9 at gk9 ⊢
      generalize xs 10 = vx10 at gk10 ⊢
      generalize xs 11 = vx11 at gk11 ⊢
      generalize xs 12 = vx12 at gk12 ⊢
      clear xs
      simp only [Act.put, List.setIfInBounds_toArray, List.set_cons_zero, List.set_cons_succ, List.drop_succ_cons, List.drop_zero]
      obtain ⟨gA, rfl, hgA, hcA⟩ := gk11
      obtain ⟨gB, rfl, hgB, hcB⟩ := gk12
      have hv1 := gk9
      obtain ⟨sA, sq, sc, sB, sb, sC, sd, rfl⟩ := gk9.form6
      clear gk9
      obtain ⟨wS, wt, wu, rfl, -⟩ := gk10
      clear gk7 gk8
      have hne : gA ≠ gB := fun e => by subst e; rw [hcA] at hcB; cases hcB
      have hE2 : Ext u2 (((((((((wx.setCell ⟨gA, 0, none⟩ (.int .i64 X1.T)).setCell ⟨gA, 1, none⟩ (.int .i64 X1.C)).setCell ⟨gA, 2, none⟩ (.slice sA sq sc)).setCell ⟨gA, 3, none⟩ (.int .u64 X1.R)).setCell ⟨gA, 4, none⟩ (.slice sB X1.n sb)).setCell ⟨gA, 5, none⟩ (.slice sC X1.n sd)).setCell ⟨gB, 0, none⟩ (.int .u64 R1.N)).setCell ⟨gB, 1, none⟩ (.slice wS wt wu)).setCell ⟨gB, 2, none⟩ (.bool R1.fail)) := setAll_ext (g := gB) (vs := [.int .u64 R1.N, .slice wS wt wu, .bool R1.fail]) (i := 0) (setAll_ext (g := gA) (vs := [.int .i64 X1.T, .int .i64 X1.C, .slice sA sq sc, .int .u64 X1.R, .slice sB X1.n sb, .slice sC X1.n sd]) (i := 0) hx.drawn hgA) hgB
      have hfA : (((((((((wx.setCell ⟨gA, 0, none⟩ (.int .i64 X1.T)).setCell ⟨gA, 1, none⟩ (.int .i64 X1.C)).setCell ⟨gA, 2, none⟩ (.slice sA sq sc)).setCell ⟨gA, 3, none⟩ (.int .u64 X1.R)).setCell ⟨gA, 4, none⟩ (.slice sB X1.n sb)).setCell ⟨gA, 5, none⟩ (.slice sC X1.n sd)).setCell ⟨gB, 0, none⟩ (.int .u64 R1.N)).setCell ⟨gB, 1, none⟩ (.slice wS wt wu)).setCell ⟨gB, 2, none⟩ (.bool R1.fail)).heap[gA]? = some (.cells #[.int .i64 X1.T, .int .i64 X1.C, .slice sA sq sc, .int .u64 X1.R, .slice sB X1.n sb, .slice sC X1.n sd] 32 (0, 0)) := (setAll_other (g := gB) hne [.int .u64 R1.N, .slice wS wt wu, .bool R1.fail] 0 (setAll gA 0 [.int .i64 X1.T, .int .i64 X1.C, .slice sA sq sc, .int .u64 X1.R, .slice sB X1.n sb, .slice sC X1.n sd] wx)).trans (setAll_all (vs := [.int .i64 X1.T, .int .i64 X1.C, .slice sA sq sc, .int .u64 X1.R, .slice sB X1.n sb, .slice sC X1.n sd]) hcA rfl)
      have hBm : (setAll gA 0 [.int .i64 X1.T, .int .i64 X1.C, .slice sA sq sc, .int .u64 X1.R, .slice sB X1.n sb, .slice sC X1.n sd] wx).heap[gB]? = _ := (setAll_other (g := gA) (Ne.symm hne) [.int .i64 X1.T, .int .i64 X1.C, .slice sA sq sc, .int .u64 X1.R, .slice sB X1.n sb, .slice sC X1.n sd] 0 wx).trans hcB
      have hfB : (((((((((wx.setCell ⟨gA, 0, none⟩ (.int .i64 X1.T)).setCell ⟨gA, 1, none⟩ (.int .i64 X1.C)).setCell ⟨gA, 2, none⟩ (.slice sA sq sc)).setCell ⟨gA, 3, none⟩ (.int .u64 X1.R)).setCell ⟨gA, 4, none⟩ (.slice sB X1.n sb)).setCell ⟨gA, 5, none⟩ (.slice sC X1.n sd)).setCell ⟨gB, 0, none⟩ (.int .u64 R1.N)).setCell ⟨gB, 1, none⟩ (.slice wS wt wu)).setCell ⟨gB, 2, none⟩ (.bool R1.fail)).heap[gB]? = some (.cells #[.int .u64 R1.N, .slice wS wt wu, .bool R1.fail] 51 (0, 0)) := setAll_all (vs := [.int .u64 R1.N, .slice wS wt wu, .bool R1.fail]) hBm rfl
      have hv2 := (hv1.but hl3 (But.all gA [.int .i64 X1.T, .int .i64 X1.C, .slice sA sq sc, .int .u64 X1.R, .slice sB X1.n sb, .slice sC X1.n sd] 0 wx) hcA rfl).but hl3 (But.all gB [.int .u64 R1.N, .slice wS wt wu, .bool R1.fail] 0 _) hBm rfl
      change WldV (((((((((wx.setCell ⟨gA, 0, none⟩ (.int .i64 X1.T)).setCell ⟨gA, 1, none⟩ (.int .i64 X1.C)).setCell ⟨gA, 2, none⟩ (.slice sA sq sc)).setCell ⟨gA, 3, none⟩ (.int .u64 X1.R)).setCell ⟨gA, 4, none⟩ (.slice sB X1.n sb)).setCell ⟨gA, 5, none⟩ (.slice sC X1.n sd)).setCell ⟨gB, 0, none⟩ (.int .u64 R1.N)).setCell ⟨gB, 1, none⟩ (.slice wS wt wu)).setCell ⟨gB, 2, none⟩ (.bool R1.fail)) _ _ at hv2
      have a0 : wx.cell? ⟨gA, 0, none⟩ = some (.int .i64 0) := by simp [World.cell?, hcA]
      have af0 : wx.frozen? ⟨gA, 0, none⟩ = false := by simp [World.frozen?, hcA]
      have a1 : wx.cell? ⟨gA, 1, none⟩ = some (.int .i64 0) := by simp [World.cell?, hcA]
      have af1 : wx.frozen? ⟨gA, 1, none⟩ = false := by simp [World.frozen?, hcA]
      have a2 : wx.cell? ⟨gA, 2, none⟩ = some (.slice none 0 0) := by simp [World.cell?, hcA]
      have af2 : wx.frozen? ⟨gA, 2, none⟩ = false := by simp [World.frozen?, hcA]
      have a3 : wx.cell? ⟨gA, 3, none⟩ = some (.int .u64 0) := by simp [World.cell?, hcA]
      have af3 : wx.frozen? ⟨gA, 3, none⟩ = false := by simp [World.frozen?, hcA]
      have a4 : wx.cell? ⟨gA, 4, none⟩ = some (.slice none 0 0) := by simp [World.cell?, hcA]
      have af4 : wx.frozen? ⟨gA, 4, none⟩ = false := by simp [World.frozen?, hcA]
      have a5 : wx.cell? ⟨gA, 5, none⟩ = some (.slice none 0 0) := by simp [World.cell?, hcA]
      have af5 : wx.frozen? ⟨gA, 5, none⟩ = false := by simp [World.frozen?, hcA]
      have b0 : wx.cell? ⟨gB, 0, none⟩ = some (.int .u64 0) := by simp [World.cell?, hcB]
      have bf0 : wx.frozen? ⟨gB, 0, none⟩ = false := by simp [World.frozen?, hcB]
      have b1 : wx.cell? ⟨gB, 1, none⟩ = some (.slice none 0 0) := by simp [World.cell?, hcB]
      have bf1 : wx.frozen? ⟨gB, 1, none⟩ = false := by simp [World.frozen?, hcB]
      have b2 : wx.cell? ⟨gB, 2, none⟩ = some (.bool false) := by simp [World.cell?, hcB]
      have bf2 : wx.frozen? ⟨gB, 2, none⟩ = false := by simp [World.frozen?, hcB]
      clear hX
      go_upto_region 21 with (fail)
      generalize (((((((((wx.setCell ⟨gA, 0, none⟩ (.int .i64 X1.T)).setCell ⟨gA, 1, none⟩ (.int .i64 X1.C)).setCell ⟨gA, 2, none⟩ (.slice sA sq sc)).setCell ⟨gA, 3, none⟩ (.int .u64 X1.R)).setCell ⟨gA, 4, none⟩ (.slice sB X1.n sb)).setCell ⟨gA, 5, none⟩ (.slice sC X1.n sd)).setCell ⟨gB, 0, none⟩ (.int .u64 R1.N)).setCell ⟨gB, 1, none⟩ (.slice wS wt wu)).setCell ⟨gB, 2, none⟩ (.bool R1.fail)) = wf at *
      clear a0 af0 a1 af1 a2 af2 a3 af3 a4 af4 a5 af5 b0 bf0 b1 bf1 b2 bf2 hBm hcA hcB hv1 hx
      have hbx0 := heap_ext HBX.out hE2
      have hby0 := heap_ext HBY.out hE2
      have h17 := heap_ext H17.out hE2
      have h18 := heap_ext H18.out hE2
      have hWr := HWR.out.trans hE2
      have hown := HOWN.out.ext hE2
      have hgr := Nat.le_trans HGR.out hE2.size
      have hV1 := HV1.out.ext hE2
      have hgu : gs ≤ u2.heap.size := HGR.out
      clear HBX HBY HWR HOWN HGR HV1
      have nxA : ¬ gx = gA := by omega
      have nyA : ¬ gy = gA := by omega
      have nxB : ¬ gx = gB := by omega
      have nyB : ¬ gy = gB := by omega
      have nx17 : ¬ gx = g17 := by omega
      have ny17 : ¬ gy = g17 := by omega
      have ny18 : ¬ gy = g17 + 1 := by omega
      have nx18 : ¬ gx = g17 + 1 := by omega
      have f0 : wf.cell? ⟨g17, 0, none⟩ = some (.int .i64 X1.T) := by simp [World.cell?, h17]
      have f1 : wf.cell? ⟨g17, 1, none⟩ = some (.int .i64 X1.C) := by simp [World.cell?, h17]
      have f2 : wf.cell? ⟨g17, 2, none⟩ = some (.slice zA zq zc) := by simp [World.cell?, h17]
      have f3 : wf.cell? ⟨g17, 3, none⟩ = some (.int .u64 X1.R) := by simp [World.cell?, h17]
      have f4 : wf.cell? ⟨g17, 4, none⟩ = some (.slice zB X1.n zb) := by simp [World.cell?, h17]
      have f5 : wf.cell? ⟨g17, 5, none⟩ = some (.slice zC X1.n zd) := by simp [World.cell?, h17]
      have a0 : wf.cell? ⟨gA, 0, none⟩ = some (.int .i64 X1.T) := by simp [World.cell?, hfA]
      have a1 : wf.cell? ⟨gA, 1, none⟩ = some (.int .i64 X1.C) := by simp [World.cell?, hfA]
      have a2 : wf.cell? ⟨gA, 2, none⟩ = some (.slice sA sq sc) := by simp [World.cell?, hfA]
      have a3 : wf.cell? ⟨gA, 3, none⟩ = some (.int .u64 X1.R) := by simp [World.cell?, hfA]
      have a4 : wf.cell? ⟨gA, 4, none⟩ = some (.slice sB X1.n sb) := by simp [World.cell?, hfA]
      have a5 : wf.cell? ⟨gA, 5, none⟩ = some (.slice sC X1.n sd) := by simp [World.cell?, hfA]
      have e0 : wf.cell? ⟨gx, 0, none⟩ = some (.int .i64 Xj.T) := by simp [World.cell?, hbx0]
      have ef0 : wf.frozen? ⟨gx, 0, none⟩ = false := by simp [World.frozen?, hbx0]
      have e1 : wf.cell? ⟨gx, 1, none⟩ = some (.int .i64 Xj.C) := by simp [World.cell?, hbx0]
      have ef1 : wf.frozen? ⟨gx, 1, none⟩ = false := by simp [World.frozen?, hbx0]
      have e2 : wf.cell? ⟨gx, 2, none⟩ = some (.slice bA bq bc) := by simp [World.cell?, hbx0]
      have ef2 : wf.frozen? ⟨gx, 2, none⟩ = false := by simp [World.frozen?, hbx0]
      have e3 : wf.cell? ⟨gx, 3, none⟩ = some (.int .u64 Xj.R) := by simp [World.cell?, hbx0]
      have ef3 : wf.frozen? ⟨gx, 3, none⟩ = false := by simp [World.frozen?, hbx0]
      have e4 : wf.cell? ⟨gx, 4, none⟩ = some (.slice bB Xj.n bb) := by simp [World.cell?, hbx0]
      have ef4 : wf.frozen? ⟨gx, 4, none⟩ = false := by simp [World.frozen?, hbx0]
      have e5 : wf.cell? ⟨gx, 5, none⟩ = some (.slice bC Xj.n bd) := by simp [World.cell?, hbx0]
      have ef5 : wf.frozen? ⟨gx, 5, none⟩ = false := by simp [World.frozen?, hbx0]
      have o0 : wf.cell? ⟨gy, 0, none⟩ = some (.int .i64 Xj.T) := by simp [World.cell?, hby0]
      have of0 : wf.frozen? ⟨gy, 0, none⟩ = false := by simp [World.frozen?, hby0]
      have o1 : wf.cell? ⟨gy, 1, none⟩ = some (.int .i64 Xj.C) := by simp [World.cell?, hby0]
      have of1 : wf.frozen? ⟨gy, 1, none⟩ = false := by simp [World.frozen?, hby0]
      have o2 : wf.cell? ⟨gy, 2, none⟩ = some (.slice dA dq dc) := by simp [World.cell?, hby0]
      have of2 : wf.frozen? ⟨gy, 2, none⟩ = false := by simp [World.frozen?, hby0]
      have o3 : wf.cell? ⟨gy, 3, none⟩ = some (.int .u64 Xj.R) := by simp [World.cell?, hby0]
      have of3 : wf.frozen? ⟨gy, 3, none⟩ = false := by simp [World.frozen?, hby0]
      have o4 : wf.cell? ⟨gy, 4, none⟩ = some (.slice dB Xj.n db) := by simp [World.cell?, hby0]
      have of4 : wf.frozen? ⟨gy, 4, none⟩ = false := by simp [World.frozen?, hby0]
      have o5 : wf.cell? ⟨gy, 5, none⟩ = some (.slice dC Xj.n dd) := by simp [World.cell?, hby0]
      have of5 : wf.frozen? ⟨gy, 5, none⟩ = false := by simp [World.frozen?, hby0]
      go_upto_region 23 with (fail)
      have hy0 : (setAll gx 0 [.int .i64 X1.T, .int .i64 X1.C, .slice zA zq zc, .int .u64 X1.R, .slice zB X1.n zb, .slice zC X1.n zd] wf).heap[gy]? = _ := (setAll_other (g := gx) (fun e => nxy e.symm) [.int .i64 X1.T, .int .i64 X1.C, .slice zA zq zc, .int .u64 X1.R, .slice zB X1.n zb, .slice zC X1.n zd] 0 wf).trans hby0
      have hWg : Ext w ((((((((((((wf.setCell ⟨gx, 0, none⟩ (.int .i64 X1.T)).setCell ⟨gx, 1, none⟩ (.int .i64 X1.C)).setCell ⟨gx, 2, none⟩ (.slice zA zq zc)).setCell ⟨gx, 3, none⟩ (.int .u64 X1.R)).setCell ⟨gx, 4, none⟩ (.slice zB X1.n zb)).setCell ⟨gx, 5, none⟩ (.slice zC X1.n zd)).setCell ⟨gy, 0, none⟩ (.int .i64 X1.T)).setCell ⟨gy, 1, none⟩ (.int .i64 X1.C)).setCell ⟨gy, 2, none⟩ (.slice sA sq sc)).setCell ⟨gy, 3, none⟩ (.int .u64 X1.R)).setCell ⟨gy, 4, none⟩ (.slice sB X1.n sb)).setCell ⟨gy, 5, none⟩ (.slice sC X1.n sd)) := setAll_ext (g := gy) (vs := [.int .i64 X1.T, .int .i64 X1.C, .slice sA sq sc, .int .u64 X1.R, .slice sB X1.n sb, .slice sC X1.n sd]) (i := 0) (setAll_ext (g := gx) (vs := [.int .i64 X1.T, .int .i64 X1.C, .slice zA zq zc, .int .u64 X1.R, .slice zB X1.n zb, .slice zC X1.n zd]) (i := 0) hWr (by omega)) (by omega)
      have hbx2 : ((((((((((((wf.setCell ⟨gx, 0, none⟩ (.int .i64 X1.T)).setCell ⟨gx, 1, none⟩ (.int .i64 X1.C)).setCell ⟨gx, 2, none⟩ (.slice zA zq zc)).setCell ⟨gx, 3, none⟩ (.int .u64 X1.R)).setCell ⟨gx, 4, none⟩ (.slice zB X1.n zb)).setCell ⟨gx, 5, none⟩ (.slice zC X1.n zd)).setCell ⟨gy, 0, none⟩ (.int .i64 X1.T)).setCell ⟨gy, 1, none⟩ (.int .i64 X1.C)).setCell ⟨gy, 2, none⟩ (.slice sA sq sc)).setCell ⟨gy, 3, none⟩ (.int .u64 X1.R)).setCell ⟨gy, 4, none⟩ (.slice sB X1.n sb)).setCell ⟨gy, 5, none⟩ (.slice sC X1.n sd)).heap[gx]? = some (.cells #[.int .i64 X1.T, .int .i64 X1.C, .slice zA zq zc, .int .u64 X1.R, .slice zB X1.n zb, .slice zC X1.n zd] 32 (0, 0)) := (setAll_other (g := gy) nxy [.int .i64 X1.T, .int .i64 X1.C, .slice sA sq sc, .int .u64 X1.R, .slice sB X1.n sb, .slice sC X1.n sd] 0 (setAll gx 0 [.int .i64 X1.T, .int .i64 X1.C, .slice zA zq zc, .int .u64 X1.R, .slice zB X1.n zb, .slice zC X1.n zd] wf)).trans (setAll_all (vs := [.int .i64 X1.T, .int .i64 X1.C, .slice zA zq zc, .int .u64 X1.R, .slice zB X1.n zb, .slice zC X1.n zd]) hbx0 rfl)
      have hby2 : ((((((((((((wf.setCell ⟨gx, 0, none⟩ (.int .i64 X1.T)).setCell ⟨gx, 1, none⟩ (.int .i64 X1.C)).setCell ⟨gx, 2, none⟩ (.slice zA zq zc)).setCell ⟨gx, 3, none⟩ (.int .u64 X1.R)).setCell ⟨gx, 4, none⟩ (.slice zB X1.n zb)).setCell ⟨gx, 5, none⟩ (.slice zC X1.n zd)).setCell ⟨gy, 0, none⟩ (.int .i64 X1.T)).setCell ⟨gy, 1, none⟩ (.int .i64 X1.C)).setCell ⟨gy, 2, none⟩ (.slice sA sq sc)).setCell ⟨gy, 3, none⟩ (.int .u64 X1.R)).setCell ⟨gy, 4, none⟩ (.slice sB X1.n sb)).setCell ⟨gy, 5, none⟩ (.slice sC X1.n sd)).heap[gy]? = some (.cells #[.int .i64 X1.T, .int .i64 X1.C, .slice sA sq sc, .int .u64 X1.R, .slice sB X1.n sb, .slice sC X1.n sd] 32 (0, 0)) := setAll_all (vs := [.int .i64 X1.T, .int .i64 X1.C, .slice sA sq sc, .int .u64 X1.R, .slice sB X1.n sb, .slice sC X1.n sd]) hy0 rfl
      have hk2 : ∀ g, gs ≤ g → ((((((((((((wf.setCell ⟨gx, 0, none⟩ (.int .i64 X1.T)).setCell ⟨gx, 1, none⟩ (.int .i64 X1.C)).setCell ⟨gx, 2, none⟩ (.slice zA zq zc)).setCell ⟨gx, 3, none⟩ (.int .u64 X1.R)).setCell ⟨gx, 4, none⟩ (.slice zB X1.n zb)).setCell ⟨gx, 5, none⟩ (.slice zC X1.n zd)).setCell ⟨gy, 0, none⟩ (.int .i64 X1.T)).setCell ⟨gy, 1, none⟩ (.int .i64 X1.C)).setCell ⟨gy, 2, none⟩ (.slice sA sq sc)).setCell ⟨gy, 3, none⟩ (.int .u64 X1.R)).setCell ⟨gy, 4, none⟩ (.slice sB X1.n sb)).setCell ⟨gy, 5, none⟩ (.slice sC X1.n sd)).heap[g]? = wf.heap[g]? := fun g hg => (setAll_other (g := gy) (k := g) (by omega) [.int .i64 X1.T, .int .i64 X1.C, .slice sA sq sc, .int .u64 X1.R, .slice sB X1.n sb, .slice sC X1.n sd] 0 (setAll gx 0 [.int .i64 X1.T, .int .i64 X1.C, .slice zA zq zc, .int .u64 X1.R, .slice zB X1.n zb, .slice zC X1.n zd] wf)).trans (setAll_other (g := gx) (by omega) [.int .i64 X1.T, .int .i64 X1.C, .slice zA zq zc, .int .u64 X1.R, .slice zB X1.n zb, .slice zC X1.n zd] 0 wf)
      have hown2 := hown.kept (fun g o hg ho => (hk2 g hg).trans ho)
      have h18g : ((((((((((((wf.setCell ⟨gx, 0, none⟩ (.int .i64 X1.T)).setCell ⟨gx, 1, none⟩ (.int .i64 X1.C)).setCell ⟨gx, 2, none⟩ (.slice zA zq zc)).setCell ⟨gx, 3, none⟩ (.int .u64 X1.R)).setCell ⟨gx, 4, none⟩ (.slice zB X1.n zb)).setCell ⟨gx, 5, none⟩ (.slice zC X1.n zd)).setCell ⟨gy, 0, none⟩ (.int .i64 X1.T)).setCell ⟨gy, 1, none⟩ (.int .i64 X1.C)).setCell ⟨gy, 2, none⟩ (.slice sA sq sc)).setCell ⟨gy, 3, none⟩ (.int .u64 X1.R)).setCell ⟨gy, 4, none⟩ (.slice sB X1.n sb)).setCell ⟨gy, 5, none⟩ (.slice sC X1.n sd)).heap[g17 + 1]? = _ := ((setAll_other (g := gy) (fun e => ny18 e.symm) [.int .i64 X1.T, .int .i64 X1.C, .slice sA sq sc, .int .u64 X1.R, .slice sB X1.n sb, .slice sC X1.n sd] 0 (setAll gx 0 [.int .i64 X1.T, .int .i64 X1.C, .slice zA zq zc, .int .u64 X1.R, .slice zB X1.n zb, .slice zC X1.n zd] wf)).trans (setAll_other (g := gx) (fun e => nx18 e.symm) [.int .i64 X1.T, .int .i64 X1.C, .slice zA zq zc, .int .u64 X1.R, .slice zB X1.n zb, .slice zC X1.n zd] 0 wf)).trans h18
      have hfBg : ((((((((((((wf.setCell ⟨gx, 0, none⟩ (.int .i64 X1.T)).setCell ⟨gx, 1, none⟩ (.int .i64 X1.C)).setCell ⟨gx, 2, none⟩ (.slice zA zq zc)).setCell ⟨gx, 3, none⟩ (.int .u64 X1.R)).setCell ⟨gx, 4, none⟩ (.slice zB X1.n zb)).setCell ⟨gx, 5, none⟩ (.slice zC X1.n zd)).setCell ⟨gy, 0, none⟩ (.int .i64 X1.T)).setCell ⟨gy, 1, none⟩ (.int .i64 X1.C)).setCell ⟨gy, 2, none⟩ (.slice sA sq sc)).setCell ⟨gy, 3, none⟩ (.int .u64 X1.R)).setCell ⟨gy, 4, none⟩ (.slice sB X1.n sb)).setCell ⟨gy, 5, none⟩ (.slice sC X1.n sd)).heap[gB]? = _ := ((setAll_other (g := gy) (fun e => nyB e.symm) [.int .i64 X1.T, .int .i64 X1.C, .slice sA sq sc, .int .u64 X1.R, .slice sB X1.n sb, .slice sC X1.n sd] 0 (setAll gx 0 [.int .i64 X1.T, .int .i64 X1.C, .slice zA zq zc, .int .u64 X1.R, .slice zB X1.n zb, .slice zC X1.n zd] wf)).trans (setAll_other (g := gx) (fun e => nxB e.symm) [.int .i64 X1.T, .int .i64 X1.C, .slice zA zq zc, .int .u64 X1.R, .slice zB X1.n zb, .slice zC X1.n zd] 0 wf)).trans hfB
      have hV3 := (hV1.but hl3 (But.all gx [.int .i64 X1.T, .int .i64 X1.C, .slice zA zq zc, .int .u64 X1.R, .slice zB X1.n zb, .slice zC X1.n zd] 0 wf) hbx0 rfl).but hl3 (But.all gy [.int .i64 X1.T, .int .i64 X1.C, .slice sA sq sc, .int .u64 X1.R, .slice sB X1.n sb, .slice sC X1.n sd] 0 _) hy0 rfl
      change WldV ((((((((((((wf.setCell ⟨gx, 0, none⟩ (.int .i64 X1.T)).setCell ⟨gx, 1, none⟩ (.int .i64 X1.C)).setCell ⟨gx, 2, none⟩ (.slice zA zq zc)).setCell ⟨gx, 3, none⟩ (.int .u64 X1.R)).setCell ⟨gx, 4, none⟩ (.slice zB X1.n zb)).setCell ⟨gx, 5, none⟩ (.slice zC X1.n zd)).setCell ⟨gy, 0, none⟩ (.int .i64 X1.T)).setCell ⟨gy, 1, none⟩ (.int .i64 X1.C)).setCell ⟨gy, 2, none⟩ (.slice sA sq sc)).setCell ⟨gy, 3, none⟩ (.int .u64 X1.R)).setCell ⟨gy, 4, none⟩ (.slice sB X1.n sb)).setCell ⟨gy, 5, none⟩ (.slice sC X1.n sd)) _ _ at hV3
      have hV4 := (hv2.but hl3 (But.all gx [.int .i64 X1.T, .int .i64 X1.C, .slice zA zq zc, .int .u64 X1.R, .slice zB X1.n zb, .slice zC X1.n zd] 0 wf) hbx0 rfl).but hl3 (But.all gy [.int .i64 X1.T, .int .i64 X1.C, .slice sA sq sc, .int .u64 X1.R, .slice sB X1.n sb, .slice sC X1.n sd] 0 _) hy0 rfl
      change WldV ((((((((((((wf.setCell ⟨gx, 0, none⟩ (.int .i64 X1.T)).setCell ⟨gx, 1, none⟩ (.int .i64 X1.C)).setCell ⟨gx, 2, none⟩ (.slice zA zq zc)).setCell ⟨gx, 3, none⟩ (.int .u64 X1.R)).setCell ⟨gx, 4, none⟩ (.slice zB X1.n zb)).setCell ⟨gx, 5, none⟩ (.slice zC X1.n zd)).setCell ⟨gy, 0, none⟩ (.int .i64 X1.T)).setCell ⟨gy, 1, none⟩ (.int .i64 X1.C)).setCell ⟨gy, 2, none⟩ (.slice sA sq sc)).setCell ⟨gy, 3, none⟩ (.int .u64 X1.R)).setCell ⟨gy, 4, none⟩ (.slice sB X1.n sb)).setCell ⟨gy, 5, none⟩ (.slice sC X1.n sd)) _ _ at hV4
      have hgs2 : gs ≤ ((((((((((((wf.setCell ⟨gx, 0, none⟩ (.int .i64 X1.T)).setCell ⟨gx, 1, none⟩ (.int .i64 X1.C)).setCell ⟨gx, 2, none⟩ (.slice zA zq zc)).setCell ⟨gx, 3, none⟩ (.int .u64 X1.R)).setCell ⟨gx, 4, none⟩ (.slice zB X1.n zb)).setCell ⟨gx, 5, none⟩ (.slice zC X1.n zd)).setCell ⟨gy, 0, none⟩ (.int .i64 X1.T)).setCell ⟨gy, 1, none⟩ (.int .i64 X1.C)).setCell ⟨gy, 2, none⟩ (.slice sA sq sc)).setCell ⟨gy, 3, none⟩ (.int .u64 X1.R)).setCell ⟨gy, 4, none⟩ (.slice sB X1.n sb)).setCell ⟨gy, 5, none⟩ (.slice sC X1.n sd)).heap.size := by rw [show ((((((((((((wf.setCell ⟨gx, 0, none⟩ (.int .i64 X1.T)).setCell ⟨gx, 1, none⟩ (.int .i64 X1.C)).setCell ⟨gx, 2, none⟩ (.slice zA zq zc)).setCell ⟨gx, 3, none⟩ (.int .u64 X1.R)).setCell ⟨gx, 4, none⟩ (.slice zB X1.n zb)).setCell ⟨gx, 5, none⟩ (.slice zC X1.n zd)).setCell ⟨gy, 0, none⟩ (.int .i64 X1.T)).setCell ⟨gy, 1, none⟩ (.int .i64 X1.C)).setCell ⟨gy, 2, none⟩ (.slice sA sq sc)).setCell ⟨gy, 3, none⟩ (.int .u64 X1.R)).setCell ⟨gy, 4, none⟩ (.slice sB X1.n sb)).setCell ⟨gy, 5, none⟩ (.slice sC X1.n sd)).heap.size = wf.heap.size from by simp [World.setCell]]; exact hgr
      clear f0 f1 f2 f3 f4 f5 a0 a1 a2 a3 a4 a5 e0 e1 e2 e3 e4 e5 o0 o1 o2 o3 o4 o5 ef0 ef1 ef2 ef3 ef4 ef5 of0 of1 of2 of3 of4 of5 hy0 hk2 hown hgr h17 h18 hfA hfB hbx0 hby0 hV1 hv2 hWr hE2 H17 H18
      generalize ((((((((((((wf.setCell ⟨gx, 0, none⟩ (.int .i64 X1.T)).setCell ⟨gx, 1, none⟩ (.int .i64 X1.C)).setCell ⟨gx, 2, none⟩ (.slice zA zq zc)).setCell ⟨gx, 3, none⟩ (.int .u64 X1.R)).setCell ⟨gx, 4, none⟩ (.slice zB X1.n zb)).setCell ⟨gx, 5, none⟩ (.slice zC X1.n zd)).setCell ⟨gy, 0, none⟩ (.int .i64 X1.T)).setCell ⟨gy, 1, none⟩ (.int .i64 X1.C)).setCell ⟨gy, 2, none⟩ (.slice sA sq sc)).setCell ⟨gy, 3, none⟩ (.int .u64 X1.R)).setCell ⟨gy, 4, none⟩ (.slice sB X1.n sb)).setCell ⟨gy, 5, none⟩ (.slice sC X1.n sd)) = wg at *
      have b0 : wg.cell? ⟨gB, 0, none⟩ = some (.int .u64 R1.N) := by simp [World.cell?, hfBg]
      have b1 : wg.cell? ⟨gB, 1, none⟩ = some (.slice wS wt wu) := by simp [World.cell?, hfBg]
      have b2 : wg.cell? ⟨gB, 2, none⟩ = some (.bool R1.fail) := by simp [World.cell?, hfBg]
      have f0 : wg.cell? ⟨g17 + 1, 0, none⟩ = some (.int .u64 R1.N) := by simp [World.cell?, h18g]
      have f1 : wg.cell? ⟨g17 + 1, 1, none⟩ = some (.slice yS ys yt) := by simp [World.cell?, h18g]
      have f2 : wg.cell? ⟨g17 + 1, 2, none⟩ = some (.bool R1.fail) := by simp [World.cell?, h18g]
      generalize hr : (⟨R1.N, yS, ys, yt, R1.fail⟩ : Res) = r
      have hrc : resCells [r] = [.int .u64 R1.N, .slice yS ys yt, .bool R1.fail] := by rw [← hr]; rfl
      have hrn : r.n = R1.N := by rw [← hr]
      have hWn : Ext wg (wg.alloc (.cells #[.int .u64 R1.N, .slice yS ys yt, .bool R1.fail] 51)) := (Below.refl _ wg).alloc (Nat.le_refl _) _
      have hcn : ∀ (i : Nat) (u : Value), (resCells [r])[i]? = some u → (wg.alloc (.cells #[.int .u64 R1.N, .slice yS ys yt, .bool R1.fail] 51)).cell? ((⟨wg.heap.size, 0, none⟩ : Addr).add i) = some u := by rw [hrc]; exact heap_cells (heap_alloc_new wg _)
      have HR := Lib.hid hrn
      clear hr hrn hrc
      have hown3 := hown2.ext hWn
      go_upto_region 14 with (at_builtin; refine wpList_append_res rfl (.tmp 106) (.tmp 108) _ rfl gs i0 Try.underlying39 hi0 hz0 hz1 hz2 _ j rs rfl hown3 ⟨wg.heap.size, 0, none⟩ 1 r rfl hcn (by omega) (Nat.le_trans hgs2 hWn.size) ?_; intro v2 w5 hown5 hg5)
      have hsum : lineSum (rs ++ [r]) (j + 1) = (lineSum rs j + R1.N) % 18446744073709551616 := by rw [← hrl, lineSum_next, HR.out]
      have hwz : IntKind.u64.wrap (lineSum rs j + R1.N) = lineSum (rs ++ [r]) (j + 1) := by rw [hsum]; exact IntKind.wrap_u64 _
      have HWZ := Lib.hid hwz
      have hE5 : Ext w w5 := grown_ext hown3 hg5 (hWg.trans hWn) (by omega)
      have hbx5 : BoxW w5 gx X1 := ⟨_, grown_heap hown3 hg5 (by omega) (heap_ext hbx2 hWn), WldV.grown hown3 hg5 (hV3.ext hWn) hl3⟩
      have hby5 : BoxW w5 gy X1 := ⟨_, grown_heap hown3 hg5 (by omega) (heap_ext hby2 hWn), WldV.grown hown3 hg5 (hV4.ext hWn) hl3⟩
      have hgs5 : gs ≤ w5.heap.size := Nat.le_trans hgs2 (Nat.le_trans hWn.size hg5.size)
      clear hcn hwz hsum hown2 hown3 hg5 b0 b1 b2 f0 f1 f2 hfBg h18g hbx2 hby2 hV3 hV4 hWn hWg
      go_wp2
      go_roundw
      case rel => exact ⟨j + 1, rs ++ [r], by go_num, by omega, by simp [hrl], by rw [HWZ.out], hown5, hE5, hgs5, by rw [HNX.out]; exact hbx5, by rw [HNX.out]; exact hby5⟩
      case measure => simp [intOf]; omega
  ·obtain rfl : j = n := by omega
   obtain ⟨B, kc, rfl, hlog, hB2n, hB4⟩ := hown.log (by omega)
   have hall := lineEnd_all hlen (Nat.le_of_eq hrl.symm)
   have hFn := stX_fit (me := me) (ks := ks) (fl := fl) hF j (by omega) (fun i hi => hk100 i (by omega))
   have hwn : (stX X0 me ks fl j).ws.length ≤ 1000000 := by have := hFn.ws.2; omega
   generalize stX X0 me ks fl j = Xj at *
   clear hFn hown hk100 hfl hF
   have hlj : lineSum (rs ++ [⟨5, none, 0, 0, false⟩]) j = lineSum rs j := by rw [← hrl]; exact lineSum_more _ _
   generalize hSj : lineSum rs j = S at *
   have HSJ := Lib.hid hSj
   clear hSj
   go_wp2_with fail
   refine (line_any L j lc l B j kc rs _ (hL.accs.ext hWr) (by omega) hlog).mono ?_
   rintro e w1 ⟨rfl, hx⟩
   rw [hall]
   simp only [accZero, OutN.cells]
   replace hB4 := hB4.ext hx
   replace hbx := hbx.ext hx
   replace hby := hby.ext hx
   replace hWr := hWr.trans hx
   clear hx hlog hall
   go_upto_region 26 with (fail)
   obtain ⟨hx, -, h22⟩ := two_boxes7 w1 (.cells #[.int .i64 0, .int .i64 0, .int .u64 0, .int .u64 0, .slice none 0 0, .slice none 0 0] 42) (.cells #[.int .i64 0, .bool false, .int .i64 (j : Int), .int .u64 S, .slice none 0 0] 46)
   generalize (w1.alloc (.cells #[.int .i64 0, .int .i64 0, .int .u64 0, .int .u64 0, .slice none 0 0, .slice none 0 0] 42)).alloc (.cells #[.int .i64 0, .bool false, .int .i64 (j : Int), .int .u64 S, .slice none 0 0] 46) = w2 at *
   generalize w1.heap.size = g21 at *
   replace hB4 := hB4.ext hx
   replace hbx := hbx.ext hx
   replace hby := hby.ext hx
   replace hWr := hWr.trans hx
   clear hx
   have hWz : Ext w2 (w2.alloc (.cells #[] 51)) := (Below.refl _ w2).alloc (Nat.le_refl _) _
   have hown0 : (w2.alloc (.cells #[] 51)).ownsRow w2.heap.size 51 3 (.slice (some ⟨w2.heap.size, 0, none⟩) 0 0) 0 [] := ownsRow_start (heap_alloc_new w2 _) (Nat.le_refl _)
   go_wp2_with (first
    | (at_builtin; refine wpList_append_own_any rfl (.tmp 119) (.tmp 120) _ _ rfl w2.heap.size i0 _ 3 40 Try.underlying39 hi0 hz0 hz1 hz2 rfl (by decide) _ 0 [] rfl hown0 B j kc (resCells rs) rfl (by rw [resCells_length, hrl]) (hB4.ext hWz) hB2n (resCells_one _) (by simp only [maxLen]; omega) (by omega) (by simp) ?_; go_loud (intro v1 w4 hown1 hb1; try simp only [Nat.zero_add, List.nil_append] at hown1; have hX4 : Ext w2 w4 := Below.trans hWz hb1; have hW4 : Ext w4 (w4.alloc (.cells #[.int .u64 5, .slice none 0 0, .bool false] 51)) := (Below.refl _ w4).alloc (Nat.le_refl _) _; have hc5 : Cells (w4.alloc (.cells #[.int .u64 5, .slice none 0 0, .bool false] 51)) (some ⟨w4.heap.size, 0, none⟩) (resCells [⟨5, none, 0, 0, false⟩]) := cells_heap (heap_alloc_new w4 _)))
    | (at_builtin; refine wpList_append_own_any rfl (.tmp 121) (.tmp 123) _ _ rfl w2.heap.size i0 _ 3 40 Try.underlying39 hi0 hz0 hz1 hz2 rfl (by decide) _ j (resCells rs) rfl (ownsRow_ext hown1 hW4) (some ⟨w4.heap.size, 0, none⟩) 1 1 (resCells [⟨5, none, 0, 0, false⟩]) rfl (by simp [resCells_length]) hc5 (by intro h; cases h) (resCells_one _) (by simp only [maxLen]; omega) (by omega) (Nat.le_trans hX4.size hW4.size) ?_; intro v2 w5 hown2 hb2))
   have hX5 : Ext w2 w5 := Below.trans (hX4.trans hW4) hb2
   rw [← resCells_append] at hown2
   obtain ⟨E, ec, rfl, -, -, -, hE4, -⟩ := own_formS (by omega) hown2
   have hlog2 := LogV.of_cells (c := ec) (n := j + 1) (by simp [hrl]) (by omega) hE4
   have hall2 := lineEnd_all (rs := rs ++ [⟨5, none, 0, 0, false⟩]) hlen (by simp; omega)
   rw [hlj] at hall2
   replace h22 := heap_ext h22 hX5
   replace hbx := hbx.ext hX5
   replace hby := hby.ext hX5
   replace hWr := hWr.trans hX5
   clear hX5 hX4 hW4 hown0 hown1 hown2 hc5 hb1 hb2 hWz hE4 hB4 hlj
   refine (line_any L j lc l E (j + 1) ec _ _ (hL.accs.ext hWr) (by omega) hlog2).mono ?_
   rintro e w6 ⟨rfl, hx⟩
   rw [hall2]
   simp only [accZero, OutN.cells]
   replace h22 := heap_ext h22 hx
   replace hbx := hbx.ext hx
   replace hby := hby.ext hx
   replace hWr := hWr.trans hx
   clear hx hlog2 hall2
   go_upto_region 27 with (fail)
   obtain ⟨hx, -, h25⟩ := two_boxes7 w6 (.cells #[.int .i64 0, .int .i64 0, .int .u64 0, .int .u64 0, .slice none 0 0, .slice none 0 0] 42) (.cells #[.int .i64 0, .bool false, .int .i64 (j : Int), .int .u64 S, .slice none 0 0] 46)
   generalize (w6.alloc (.cells #[.int .i64 0, .int .i64 0, .int .u64 0, .int .u64 0, .slice none 0 0, .slice none 0 0] 42)).alloc (.cells #[.int .i64 0, .bool false, .int .i64 (j : Int), .int .u64 S, .slice none 0 0] 46) = w7 at *
   generalize w6.heap.size = g24 at *
   replace h22 := heap_ext h22 hx
   replace hbx := hbx.ext hx
   replace hby := hby.ext hx
   replace hWr := hWr.trans hx
   clear hx
   have e0 : w7.cell? ⟨g21 + 1, 0, none⟩ = some (.int .i64 0) := by simp [World.cell?, h22]
   have e1 : w7.cell? ⟨g21 + 1, 1, none⟩ = some (.bool false) := by simp [World.cell?, h22]
   have e2 : w7.cell? ⟨g21 + 1, 2, none⟩ = some (.int .i64 (j : Int)) := by simp [World.cell?, h22]
   have e3 : w7.cell? ⟨g21 + 1, 3, none⟩ = some (.int .u64 S) := by simp [World.cell?, h22]
   have e4 : w7.cell? ⟨g21 + 1, 4, none⟩ = some (.slice none 0 0) := by simp [World.cell?, h22]
   have f0 : w7.cell? ⟨g24 + 1, 0, none⟩ = some (.int .i64 0) := by simp [World.cell?, h25]
   have f1 : w7.cell? ⟨g24 + 1, 1, none⟩ = some (.bool false) := by simp [World.cell?, h25]
   have f2 : w7.cell? ⟨g24 + 1, 2, none⟩ = some (.int .i64 (j : Int)) := by simp [World.cell?, h25]
   have f3 : w7.cell? ⟨g24 + 1, 3, none⟩ = some (.int .u64 S) := by simp [World.cell?, h25]
   have f4 : w7.cell? ⟨g24 + 1, 4, none⟩ = some (.slice none 0 0) := by simp [World.cell?, h25]
   go_wp2_with fail
   refine (outs_lit _).mono ?_
   rintro e w8 ⟨rfl, hx⟩
   clear e0 e1 e2 e3 e4 f0 f1 f2 f3 f4
   replace h22 := heap_ext h22 hx
   replace hbx := hbx.ext hx
   replace hby := hby.ext hx
   replace hWr := hWr.trans hx
   clear hx h25
   obtain ⟨bA, bq, bc, bB, bb, bC, bd, hbx0, hbxV⟩ := hbx.form
   obtain ⟨dA, dq, dc, dB, db, dC, dd, hby0, hbyV⟩ := hby.form
   have e0 : w8.cell? ⟨g21 + 1, 0, none⟩ = some (.int .i64 0) := by simp [World.cell?, h22]
   have e1 : w8.cell? ⟨g21 + 1, 1, none⟩ = some (.bool false) := by simp [World.cell?, h22]
   have e2 : w8.cell? ⟨g21 + 1, 2, none⟩ = some (.int .i64 (j : Int)) := by simp [World.cell?, h22]
   have e3 : w8.cell? ⟨g21 + 1, 3, none⟩ = some (.int .u64 S) := by simp [World.cell?, h22]
   have e4 : w8.cell? ⟨g21 + 1, 4, none⟩ = some (.slice none 0 0) := by simp [World.cell?, h22]
   have f0 : w8.cell? ⟨gx, 0, none⟩ = some (.int .i64 Xj.T) := by simp [World.cell?, hbx0]
   have f1 : w8.cell? ⟨gx, 1, none⟩ = some (.int .i64 Xj.C) := by simp [World.cell?, hbx0]
   have f2 : w8.cell? ⟨gx, 2, none⟩ = some (.slice bA bq bc) := by simp [World.cell?, hbx0]
   have f3 : w8.cell? ⟨gx, 3, none⟩ = some (.int .u64 Xj.R) := by simp [World.cell?, hbx0]
   have f4 : w8.cell? ⟨gx, 4, none⟩ = some (.slice bB Xj.n bb) := by simp [World.cell?, hbx0]
   have f5 : w8.cell? ⟨gx, 5, none⟩ = some (.slice bC Xj.n bd) := by simp [World.cell?, hbx0]
   have o0 : w8.cell? ⟨gy, 0, none⟩ = some (.int .i64 Xj.T) := by simp [World.cell?, hby0]
   have o1 : w8.cell? ⟨gy, 1, none⟩ = some (.int .i64 Xj.C) := by simp [World.cell?, hby0]
   have o2 : w8.cell? ⟨gy, 2, none⟩ = some (.slice dA dq dc) := by simp [World.cell?, hby0]
   have o3 : w8.cell? ⟨gy, 3, none⟩ = some (.int .u64 Xj.R) := by simp [World.cell?, hby0]
   have o4 : w8.cell? ⟨gy, 4, none⟩ = some (.slice dB Xj.n db) := by simp [World.cell?, hby0]
   have o5 : w8.cell? ⟨gy, 5, none⟩ = some (.slice dC Xj.n dd) := by simp [World.cell?, hby0]
   go_wp2_with fail
   refine (rasame_yes hbxV hbyV hwn).mono ?_
   rintro e w9 ⟨rfl, hx⟩
   clear e0 e1 e2 e3 e4 f0 f1 f2 f3 f4 f5 o0 o1 o2 o3 o4 o5
   go_wp2
   go_ret
   exact ⟨rfl, hWr.trans hx⟩
set_option maxRecDepth 100000 in
theorem open_steps {H : Type} {enc : TypeId × Value → H} {w : World} {base : Nat} {b0 : Nat} {v : Value} {d : DataW H} {p : List MemPlace} (hv : Value.okWide Try.prog w .any b0 35 v) (h : DataW.Trod enc Try.prog w base (fun _ => true) true 35 v d p) (hL : Light Try.prog 35 d) :
  ∃ (L : Option Addr) (n lc : Nat) (l : List Acc) (ks : Nat → AccK) (T C : Int) (A : Option Addr) (q c : Nat) (ws : List Int) (R : Int) (A0 A1 : Option Addr) (n0 c0 n1 c1 : Nat) (l0 l1 : List St) (me : Int) (F : Option Addr) (fn fc : Nat) (bs : List Bool),
   v = .agg #[.slice L n lc, .int .i64 T, .int .i64 C, .slice A q c, .int .u64 R, .slice A0 n0 c0, .slice A1 n1 c1, .int .i64 me, .slice F fn fc] ∧ AccsP w L n lc l ∧ (∀ (j : Nat) (x : Acc), l[j]? = some x → AccV w x.v (ks j)) ∧ WldP w A q c ws R A0 A1 n0 c0 n1 c1 l0 l1 ∧ BoolsV w F fn fc bs ∧ fn ≤ maxLen := by
 obtain ⟨cs, rfl, hsz⟩ := okWide_struct Try.underlying35 hv
 obtain ⟨fuel, hf⟩ := h
 obtain ⟨k, hg⟩ := open_inner_w Try.underlying35 hf hL
 have hl : cs.toList.length = 9 := by simpa [show Try.prog.cellsOf 35 = 9 by kernel_rfl] using hsz
 have hcs : (Value.agg cs).cells.toList = cs.toList := rfl
 rw [hcs] at hg
 have hcs2 : cs = cs.toList.toArray := by simp
 rw [hcs2]
 generalize cs.toList = l at *
 match l, hl with
 | [x0, x1, x2, x3, x4, x5, x6, x7, x8], _ =>
 obtain ⟨_, t0, -⟩ := hg 0 _ rfl
 obtain ⟨_, t1, y1⟩ := hg 1 _ rfl
 obtain ⟨_, t2, -⟩ := hg 2 _ rfl
 obtain ⟨_, t3, -⟩ := hg 3 _ rfl
 obtain ⟨L, n, lc, l, e0, hA, hK⟩ := open_accsK t0
 obtain ⟨T, C, A, q, c, ws, R, A0, A1, n0, c0, n1, c1, l0, l1, e1, hP⟩ := open_world (by simp [cellsWorld, show Try.prog.cellsOf 22 = 1 by kernel_rfl]) t1 y1
 obtain ⟨me, e2, _, w2⟩ := DataW.trod_int Try.underlying3 t2
 obtain ⟨F, fn, fc, bs, e3, hS, hfn⟩ := open_boolsv t3
 simp [cellsIntS, cellsWorld, show Try.prog.cellsOf 22 = 1 by kernel_rfl, show Try.prog.cellsOf 33 = 1 by kernel_rfl] at e0 e1 e2 e3
 obtain ⟨rfl, rfl, rfl, rfl, rfl, rfl⟩ := e1
 subst e0 e2 e3
 obtain ⟨ks, hks⟩ := accs_choose hK
 exact ⟨L, n, lc, l, ks, T, C, A, q, c, ws, R, A0, A1, n0, c0, n1, c1, l0, l1, me, F, fn, fc, bs, rfl, hA, hks, hP, hS, hfn⟩
set_option maxRecDepth 100000 in
theorem PlaySteps_lifted (os : Os) (started : os.Started) (H : Type) (enc : TypeId × Value → H) :
  ReturnsInHanded {} Try.checked os 3 .any (Rows.playStepsSpec.pre6 enc Try.prog Try.f3 Rows.playStepsRow.domain false) (Rows.playStepsSpec.post enc Try.prog Try.f3 false true false false) := by
 refine law_row_w os started H enc Rows.playStepsSpec rfl (fun ds h => by
  match ds, h with
  | [_], _ => rfl) (by kernel_rfl) Try.func3 rfl
  (by rw [Try.params3]; intro t ht; simp at ht; subst ht; exact ⟨by kernel_rfl, of_decide_eq_true (by kernel_rfl)⟩)
  (ChangeSpec.witness6 (enc := enc) (C := Try.checked) false ⟨#[], #[.agg #[.slice none 0 0, .int .i64 0, .int .i64 0, .slice none 0 0, .int .u64 0, .slice none 0 0, .slice none 0 0, .int .i64 0, .slice none 0 0]], []⟩ 8 (by kernel_rfl) (by kernel_rfl) (by kernel_rfl) (by kernel_rfl)) ?_
 intro W base args ds ps hval hA hlt hlight
 rw [Try.params3] at hA hval
 obtain ⟨v0, d0, rfl, rfl, h0⟩ := trodAll_one hA
 obtain ⟨L, n, lc, l, ks, T, C, A, q, c, ws, R, A0, A1, n0, c0, n1, c1, l0, l1, me, F, fn, fc, bs, rfl, hL, hks, hP, hS, hfn⟩ := open_steps (hval 0 _ v0 rfl rfl) h0 (hlight 0 _ _ rfl rfl)
 exact steps_walk L n lc l ks T C A q c ws R A0 A1 n0 c0 n1 c1 l0 l1 me F fn fc bs W hL hks hP hS hfn
theorem PlaySteps_holds : Rows.PlayStepsSaid :=
 OpenClaim.holds_of_wide 3 Try.f3 rfl rfl rfl rfl rfl rfl rfl ⟨rfl, rfl, rfl, rfl, rfl⟩ rfl rfl rfl rfl rfl (by kernel_rfl) Try.func3 (by kernel_rfl)
  (of_decide_eq_true (by kernel_rfl)) (by unfold Func.isWrapper; rw [if_neg (of_decide_eq_false (by kernel_rfl))]; exact ⟨rfl, rfl⟩)
  (fun os started H enc _ => PlaySteps_lifted os started H enc)
#print axioms PlaySteps_holds
end Go.Proofs.Ytennnhfaghdeoaa
