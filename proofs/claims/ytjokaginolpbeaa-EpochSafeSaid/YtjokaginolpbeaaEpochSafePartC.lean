import Derived.Test.YtjokaginolpbeaaEpochSafePartB
import Derived.Deep.CutRange
import Derived.Lib.Hide
namespace Go.Proofs.Ytjokaginolpbeaa
open Go.RowKit

/-! access.streams. -/
/-- what access.streams answers -/
def StrPost (R : Int) (n : Nat) (K0 K1 : List Key) (r : ResK) (w : World) (e : Ending) (w' : World) : Prop := ∃ v' r', e = .returned (.tuple #[v', r']) ∧ DkK w' v' R n K0 K1 ∧ ResV w' r' r ∧ Ext w w'
set_option maxRecDepth 100000 in
set_option maxHeartbeats 2000000 in
theorem streams_5 (RN n : Nat) (A0 A1 : Option Addr) (c0 c1 : Nat) (K0 K1 : List Key) (me ce a b : Int) (D : Option Addr) (m cd : Nat) (B : Option Addr) (q2 cb : Nat) (dat : List UInt8) (wd : List Int) (w : World) (hd : DkK w (.agg #[.int .u64 (RN : Int), .slice A0 n c0, .slice A1 n c1]) (RN : Int) n K0 K1) (hR : RN < 18446744073709551616) (hpos : 0 < n) (hn : n ≤ 64) (hB : BytesV w D m cd dat)
  (hm0 : ∀ x ∈ K0, x.1.length + m ≤ 65536) (hm1 : ∀ x ∈ K1, x.1.length + m ≤ 65536) :
  Calls Try.prog 119 #[.agg #[.int .u64 (RN : Int), .slice A0 n c0, .slice A1 n c1], .int .i64 me, .agg #[.int .i64 5, .int .i64 ce, .int .u64 a, .int .u64 b, .slice D m cd, .slice B q2 cb]] w (StrPost (strRoot (RN : Int) ⟨5, ce, a, b, dat, wd⟩) n (strK0 (RN : Int) n me ⟨5, ce, a, b, dat, wd⟩ K0) (strK1 (RN : Int) n me ⟨5, ce, a, b, dat, wd⟩ K1) (strR (RN : Int) ⟨5, ce, a, b, dat, wd⟩ K0 K1) w) := by
 have hs0 : ∀ x ∈ K0, x.1.length ≤ 65536 := fun x hx => by have := hm0 x hx; omega
 have hs1 : ∀ x ∈ K1, x.1.length ≤ 65536 := fun x hx => by have := hm1 x hx; omega
 obtain ⟨rr, hrr, hr2⟩ : ∃ rr, RN % 2 = rr ∧ rr < 2 := ⟨_, rfl, Nat.mod_lt _ (by omega)⟩
 have hri : (RN : Int) % 2 = (rr : Int) := by omega
 have hsub : IntKind.i64.wrap (1 - (rr : Int)) = 1 - (rr : Int) := by rw [IntKind.wrap_i64]; omega
 have hdr := fun v1 v2 W => drow_any RN v1 v2 W hR
 rw [hrr] at hdr
 have e0 : strK0 (RN : Int) n me ⟨5, ce, a, b, dat, wd⟩ K0 = act0 (rr : Int) me (appK dat) K0 := by simp [strK0, hri]
 have e1 : strK1 (RN : Int) n me ⟨5, ce, a, b, dat, wd⟩ K1 = act1 (rr : Int) me (appK dat) K1 := by simp [strK1, hri]
 have e2 : strRoot (RN : Int) ⟨5, ce, a, b, dat, wd⟩ = (RN : Int) := by simp [strRoot]
 have e3 : strR (RN : Int) ⟨5, ce, a, b, dat, wd⟩ K0 K1 = ResK.zero := by simp [strR, hri]
 rw [e0, e1, e2, e3]
 clear e0 e1 e2 e3 hrr hri
 go_enter Try.func119, Try.ntmps119
 go_upto_region 1 with (fail)
 obtain ⟨hW, hE, hG, hO, hP⟩ := boxes4 w (.cells #[.int .u64 (RN : Int), .slice A0 n c0, .slice A1 n c1] 49) (.cells #[.int .i64 5, .int .i64 ce, .int .u64 a, .int .u64 b, .slice D m cd, .slice B q2 cb] 33) (.cells #[.int .u64 0, .slice none 0 0, .slice none 0 0] 49) (.cells #[.int .u64 0, .slice none 0 0, .bool false] 59)
 generalize (((w.alloc (.cells #[.int .u64 (RN : Int), .slice A0 n c0, .slice A1 n c1] 49)).alloc (.cells #[.int .i64 5, .int .i64 ce, .int .u64 a, .int .u64 b, .slice D m cd, .slice B q2 cb] 33)).alloc (.cells #[.int .u64 0, .slice none 0 0, .slice none 0 0] 49)).alloc (.cells #[.int .u64 0, .slice none 0 0, .bool false] 59) = W at *
 have e0 : W.cell? ⟨w.heap.size, 0, none⟩ = some (.int .u64 (RN : Int)) := by simp [World.cell?, hE]
 have e1 : W.cell? ⟨w.heap.size, 1, none⟩ = some (.slice A0 n c0) := by simp [World.cell?, hE]
 have e2 : W.cell? ⟨w.heap.size, 2, none⟩ = some (.slice A1 n c1) := by simp [World.cell?, hE]
 go_wp2_with fail
 refine (hdr _ _ _).mono ?_
 rintro e w1 ⟨rfl, hx⟩
 replace hE := heap_ext hE hx
 replace hG := heap_ext hG hx
 replace hO := heap_ext hO hx
 replace hP := heap_ext hP hx
 replace hW := hW.trans hx
 clear hx e0 e1 e2 hdr
 go_upto_region 3 with (fail)
 have hx : Ext w1 (w1.alloc (.cells #[.int .u64 0, .slice none 0 0, .bool false] 59)) := (Below.refl _ w1).alloc (Nat.le_refl _) _
 have hQ := heap_alloc_new w1 (.cells #[.int .u64 0, .slice none 0 0, .bool false] 59)
 have hlt : w.heap.size + 1 + 1 + 1 < w1.heap.size := (Array.getElem?_eq_some_iff.1 hP).1
 replace hE := heap_ext hE hx
 replace hG := heap_ext hG hx
 replace hO := heap_ext hO hx
 replace hP := heap_ext hP hx
 replace hW := hW.trans hx
 generalize w1.alloc (.cells #[.int .u64 0, .slice none 0 0, .bool false] 59) = w2 at *
 generalize w1.heap.size = gQ at *
 clear hx
 have e0 : w2.cell? ⟨w.heap.size, 0, none⟩ = some (.int .u64 (RN : Int)) := by simp [World.cell?, hE]
 have ef0 : w2.frozen? ⟨w.heap.size, 0, none⟩ = false := by simp [World.frozen?, hE]
 have e1 : w2.cell? ⟨w.heap.size, 1, none⟩ = some (.slice A0 n c0) := by simp [World.cell?, hE]
 have ef1 : w2.frozen? ⟨w.heap.size, 1, none⟩ = false := by simp [World.frozen?, hE]
 have e2 : w2.cell? ⟨w.heap.size, 2, none⟩ = some (.slice A1 n c1) := by simp [World.cell?, hE]
 have ef2 : w2.frozen? ⟨w.heap.size, 2, none⟩ = false := by simp [World.frozen?, hE]
 have g0 : w2.cell? ⟨w.heap.size + 1, 0, none⟩ = some (.int .i64 5) := by simp [World.cell?, hG]
 have g1 : w2.cell? ⟨w.heap.size + 1, 1, none⟩ = some (.int .i64 ce) := by simp [World.cell?, hG]
 have g2 : w2.cell? ⟨w.heap.size + 1, 2, none⟩ = some (.int .u64 a) := by simp [World.cell?, hG]
 have g3 : w2.cell? ⟨w.heap.size + 1, 3, none⟩ = some (.int .u64 b) := by simp [World.cell?, hG]
 have g4 : w2.cell? ⟨w.heap.size + 1, 4, none⟩ = some (.slice D m cd) := by simp [World.cell?, hG]
 have g5 : w2.cell? ⟨w.heap.size + 1, 5, none⟩ = some (.slice B q2 cb) := by simp [World.cell?, hG]
 go_wp2_with fail
 refine (dappend_K (rr : Int) me (hd.ext hW) (by omega) (hB.ext hW) hm0 hm1).mono ?_
 rintro e w3 ⟨v', rfl, hdk, hx⟩
 obtain ⟨X0, X1, y0, y1, rfl⟩ := hdk.form
 replace hE := heap_ext hE hx
 replace hG := heap_ext hG hx
 replace hO := heap_ext hO hx
 replace hP := heap_ext hP hx
 replace hQ := heap_ext hQ hx
 replace hW := hW.trans hx
 clear hx e0 e1 e2 ef0 ef1 ef2 g0 g1 g2 g3 g4 g5
 have e0 : w3.cell? ⟨w.heap.size, 0, none⟩ = some (.int .u64 (RN : Int)) := by simp [World.cell?, hE]
 have ef0 : w3.frozen? ⟨w.heap.size, 0, none⟩ = false := by simp [World.frozen?, hE]
 have e1 : w3.cell? ⟨w.heap.size, 1, none⟩ = some (.slice A0 n c0) := by simp [World.cell?, hE]
 have ef1 : w3.frozen? ⟨w.heap.size, 1, none⟩ = false := by simp [World.frozen?, hE]
 have e2 : w3.cell? ⟨w.heap.size, 2, none⟩ = some (.slice A1 n c1) := by simp [World.cell?, hE]
 have ef2 : w3.frozen? ⟨w.heap.size, 2, none⟩ = false := by simp [World.frozen?, hE]
 go_upto_region 20 with (fail)
 have hE3 : (((w3.setCell ⟨w.heap.size, 0, none⟩ (.int .u64 (RN : Int))).setCell ⟨w.heap.size, 1, none⟩ (.slice X0 n y0)).setCell ⟨w.heap.size, 2, none⟩ (.slice X1 n y1)).heap[w.heap.size]? = some (.cells #[.int .u64 (RN : Int), .slice X0 n y0, .slice X1 n y1] 49 (0, 0)) := setAll_all (vs := [.int .u64 (RN : Int), .slice X0 n y0, .slice X1 n y1]) hE rfl
 have hQ3 : (((w3.setCell ⟨w.heap.size, 0, none⟩ (.int .u64 (RN : Int))).setCell ⟨w.heap.size, 1, none⟩ (.slice X0 n y0)).setCell ⟨w.heap.size, 2, none⟩ (.slice X1 n y1)).heap[gQ]? = some (.cells #[.int .u64 0, .slice none 0 0, .bool false] 59 (0, 0)) := (setAll_other (g := w.heap.size) (by omega) [.int .u64 (RN : Int), .slice X0 n y0, .slice X1 n y1] 0 w3).trans hQ
 have hO3 : (((w3.setCell ⟨w.heap.size, 0, none⟩ (.int .u64 (RN : Int))).setCell ⟨w.heap.size, 1, none⟩ (.slice X0 n y0)).setCell ⟨w.heap.size, 2, none⟩ (.slice X1 n y1)).heap[w.heap.size + 1 + 1]? = some (.cells #[.int .u64 0, .slice none 0 0, .slice none 0 0] 49 (0, 0)) := (setAll_other (g := w.heap.size) (by omega) [.int .u64 (RN : Int), .slice X0 n y0, .slice X1 n y1] 0 w3).trans hO
 have hP3 : (((w3.setCell ⟨w.heap.size, 0, none⟩ (.int .u64 (RN : Int))).setCell ⟨w.heap.size, 1, none⟩ (.slice X0 n y0)).setCell ⟨w.heap.size, 2, none⟩ (.slice X1 n y1)).heap[w.heap.size + 1 + 1 + 1]? = some (.cells #[.int .u64 0, .slice none 0 0, .bool false] 59 (0, 0)) := (setAll_other (g := w.heap.size) (by omega) [.int .u64 (RN : Int), .slice X0 n y0, .slice X1 n y1] 0 w3).trans hP
 have hW3 : Ext w (((w3.setCell ⟨w.heap.size, 0, none⟩ (.int .u64 (RN : Int))).setCell ⟨w.heap.size, 1, none⟩ (.slice X0 n y0)).setCell ⟨w.heap.size, 2, none⟩ (.slice X1 n y1)) := setAll_ext (g := w.heap.size) (vs := [.int .u64 (RN : Int), .slice X0 n y0, .slice X1 n y1]) (i := 0) hW (Nat.le_refl _)
 replace hdk := hdk.but (But.all w.heap.size [.int .u64 (RN : Int), .slice X0 n y0, .slice X1 n y1] 0 w3) hE rfl
 clear e0 e1 e2 ef0 ef1 ef2 hE hG hO hP hQ hW
 change DkK (((w3.setCell ⟨w.heap.size, 0, none⟩ (.int .u64 (RN : Int))).setCell ⟨w.heap.size, 1, none⟩ (.slice X0 n y0)).setCell ⟨w.heap.size, 2, none⟩ (.slice X1 n y1)) _ _ _ _ _ at hdk
 generalize (((w3.setCell ⟨w.heap.size, 0, none⟩ (.int .u64 (RN : Int))).setCell ⟨w.heap.size, 1, none⟩ (.slice X0 n y0)).setCell ⟨w.heap.size, 2, none⟩ (.slice X1 n y1)) = w4 at *
 have hby := bytes_nil w4
 have HE := Lib.hid hE3
 have HO := Lib.hid hO3
 have HP := Lib.hid hP3
 have HQ := Lib.hid hQ3
 have HW := Lib.hid hW3
 have HLT := Lib.hid hlt
 clear hE3 hO3 hP3 hQ3 hW3 hlt
 obtain ⟨gOO, hOO⟩ : ∃ g, g = w.heap.size + 1 + 1 := ⟨_, rfl⟩
 refine' SB.wp_region_sure (gx := [(2, gOO)]) (Pn := fun _ _ => False) ⟨[(some 86, [], none), (some 87, [], none), (none, [0, 0], none), (none, [1, 2, 0, 1, 2], none)], [0, 0, 1, 7], [none, none, some []], [2]⟩ 3 88 [(0, 86), (1, 87)] [(0, 86), (1, 87)] [.det _, .det _, SB.Good.of (fun v w => w.heap[gOO]? = some (.cells #[.int .u64 (RN : Int), .slice X0 n y0, .slice X1 n y1] 49 (0, 0))) (fun v w w' h hx => heap_ext h hx)] (by kernel_rfl) ?hpan (by kernel_rfl) (by kernel_rfl) rfl (by kernel_rfl) (by kernel_rfl) rfl ?hone ?hend
 case hpan =>
  intro _ _ _ _ h; exact h.elim
 case hone =>
  intro CS frS VS hCS ha hV
  have qs3 := slot_val (t := 3) ha rfl
  simp only [List.getElem_toArray, List.getElem_cons_succ, List.getElem_cons_zero] at qs3
  have qs6 := slot_val (t := 6) ha rfl
  simp only [List.getElem_toArray, List.getElem_cons_succ, List.getElem_cons_zero] at qs6
  have qs9 := slot_val (t := 9) ha rfl
  simp only [List.getElem_toArray, List.getElem_cons_succ, List.getElem_cons_zero] at qs9
  have HCS := Lib.hid hCS
  have HVS := Lib.hid hV
  clear ha hCS hV
  refine SB.sure_det (js := []) (ts := [3]) (gd := none) (bs := []) (SB.place_at HVS.out (k := 0) rfl) (by rw [HCS.out]; kernel_rfl) (by rw [HCS.out]; kernel_rfl) ?_ ?_
  ·intro wx hx ρ hρ hs hf; have hρc := hρ.const; have hρf := hρ.func
   obtain ⟨fx3, -⟩ := hf; rw [qs3] at fx3
   clear hs
   clear HCS HVS qs3 qs6 qs9
   refine SB.run_plain ?_
   have hgd : wx.heap[w.heap.size]? = some (.cells #[.int .u64 (RN : Int), .slice X0 n y0, .slice X1 n y1] 49 (0, 0)) := hx.heap HE.out (by simp)
   have hd0 : wx.cell? ⟨w.heap.size, 0, none⟩ = some (.int .u64 (RN : Int)) := by simp [World.cell?, hgd]
   have hd1 : wx.cell? ⟨w.heap.size, 1, none⟩ = some (.slice X0 n y0) := by simp [World.cell?, hgd]
   have hd2 : wx.cell? ⟨w.heap.size, 2, none⟩ = some (.slice X1 n y1) := by simp [World.cell?, hgd]
   unfold SB.runs
   go_simp
   exact SB.detK.mk
  refine SB.sure_det (js := []) (ts := [9]) (gd := none) (bs := [gOO]) (SB.place_at HVS.out (k := 1) rfl) (by rw [HCS.out]; kernel_rfl) (by rw [HCS.out]; kernel_rfl) ?_ ?_
  ·intro wx hx ρ hρ hs hf; have hρc := hρ.const; have hρf := hρ.func
   obtain ⟨fx9, -⟩ := hf; rw [qs9] at fx9
   clear hs
   clear HCS HVS qs3 qs6 qs9
   refine SB.run_plain ?_
   have hgd : wx.heap[gQ]? = some (.cells #[.int .u64 0, .slice none 0 0, .bool false] 59 (0, 0)) := hx.heap HQ.out (by have := HLT.out; simp; omega)
   have hd0 : wx.cell? ⟨gQ, 0, none⟩ = some (.int .u64 0) := by simp [World.cell?, hgd]
   have hd1 : wx.cell? ⟨gQ, 1, none⟩ = some (.slice none 0 0) := by simp [World.cell?, hgd]
   have hd2 : wx.cell? ⟨gQ, 2, none⟩ = some (.bool false) := by simp [World.cell?, hgd]
   unfold SB.runs
   go_simp
   exact SB.detK.mk
  refine SB.sure_wild (js := [(0, 86)]) (ts := [6]) (gd := none) (bs := []) (cs := [gOO]) (SB.place_at HVS.out (k := 2) rfl) (by rw [HCS.out]; kernel_rfl) (by rw [HCS.out]; kernel_rfl) rfl ?_ ?_
  ·intro wx hx ρ hρ hs hf; have hρc := hρ.const; have hρf := hρ.func; obtain ⟨sn0, -⟩ := hs
   obtain ⟨fx6, -⟩ := hf; rw [qs6] at fx6
   rw [SB.place_at HVS.out (k := 0) rfl] at sn0; replace sn0 : ρ (.tmp 86) = _ := sn0
   clear HCS HVS qs3 qs6 qs9
   refine SB.run_plain ?_
   subst hOO
   have hg : wx.heap[w.heap.size + 1 + 1]? = some (.cells #[.int .u64 0, .slice none 0 0, .slice none 0 0] 49 (0, 0)) := hx.heap HO.out (by simp)
   have f0 : wx.frozen? ⟨w.heap.size + 1 + 1, 0, none⟩ = false := by simp [World.frozen?, hg]
   have f1 : wx.frozen? ⟨w.heap.size + 1 + 1, 1, none⟩ = false := by simp [World.frozen?, hg]
   have f2 : wx.frozen? ⟨w.heap.size + 1 + 1, 2, none⟩ = false := by simp [World.frozen?, hg]
   have c0' : wx.cell? ⟨w.heap.size + 1 + 1, 0, none⟩ = some (.int .u64 0) := by simp [World.cell?, hg]
   have c1' : wx.cell? ⟨w.heap.size + 1 + 1, 1, none⟩ = some (.slice none 0 0) := by simp [World.cell?, hg]
   have c2' : wx.cell? ⟨w.heap.size + 1 + 1, 2, none⟩ = some (.slice none 0 0) := by simp [World.cell?, hg]
   unfold SB.runs
   go_simp
   exact ⟨.ofB ((((ExtB.refl _ _).set _ _).set _ _).set _ _) (by simp), setAll_all (vs := [.int .u64 (RN : Int), .slice X0 n y0, .slice X1 n y1]) hg rfl⟩
  exact trivial
 case hend =>
  intro xs wx hx hg hq
  have gk0 : xs 0 = _ := SB.goods_get hg (i := 0) (j := 0) (d := 86) rfl
  have gk1 : xs 1 = _ := SB.goods_get hg (i := 1) (j := 1) (d := 87) rfl
  obtain ⟨-, gk2⟩ : ∃ v : Value, wx.heap[gOO]? = some (.cells #[.int .u64 (RN : Int), .slice X0 n y0, .slice X1 n y1] 49 (0, 0)) := hq 2 (by decide) (by kernel_rfl)
  clear hg hq
  simp only [putAll, gk0, gk1]
  clear gk0 gk1
  clear xs
  simp only [Act.put, List.setIfInBounds_toArray, List.set_cons_zero, List.set_cons_succ, List.drop_succ_cons, List.drop_zero]
  subst hOO
  have hgO := gk2
  have hxs : SB.ExtS [w.heap.size + 1 + 1] w4.drew wx := hx
  have hbut : But (w.heap.size + 1 + 1) w4 wx := But.exts hxs
  have hgP : wx.heap[w.heap.size + 1 + 1 + 1]? = some (.cells #[.int .u64 0, .slice none 0 0, .bool false] 59 (0, 0)) := hbut _ _ (by omega) HP.out
  have hWx : Ext w wx := extS_base HW.out hxs (by omega)
  replace hdk := hdk.but hbut HO.out rfl
  replace hby := BytesV.but hby hbut HO.out rfl
  have hF : Ext w (((wx.setCell ⟨w.heap.size + 1 + 1 + 1, 0, none⟩ (.int .u64 0)).setCell ⟨w.heap.size + 1 + 1 + 1, 1, none⟩ (.slice none 0 0)).setCell ⟨w.heap.size + 1 + 1 + 1, 2, none⟩ (.bool false)) := setAll_ext (g := w.heap.size + 1 + 1 + 1) (vs := [.int .u64 0, .slice none 0 0, .bool false]) (i := 0) hWx (by omega)
  have hfP : (((wx.setCell ⟨w.heap.size + 1 + 1 + 1, 0, none⟩ (.int .u64 0)).setCell ⟨w.heap.size + 1 + 1 + 1, 1, none⟩ (.slice none 0 0)).setCell ⟨w.heap.size + 1 + 1 + 1, 2, none⟩ (.bool false)).heap[w.heap.size + 1 + 1 + 1]? = some (.cells #[.int .u64 0, .slice none 0 0, .bool false] 59 (0, 0)) := setAll_all (vs := [.int .u64 0, .slice none 0 0, .bool false]) hgP rfl
  have hfO : (((wx.setCell ⟨w.heap.size + 1 + 1 + 1, 0, none⟩ (.int .u64 0)).setCell ⟨w.heap.size + 1 + 1 + 1, 1, none⟩ (.slice none 0 0)).setCell ⟨w.heap.size + 1 + 1 + 1, 2, none⟩ (.bool false)).heap[w.heap.size + 1 + 1]? = some (.cells #[.int .u64 (RN : Int), .slice X0 n y0, .slice X1 n y1] 49 (0, 0)) := (setAll_other (g := w.heap.size + 1 + 1 + 1) (by omega) [.int .u64 0, .slice none 0 0, .bool false] 0 wx).trans hgO
  have hfd := hdk.but (But.all (w.heap.size + 1 + 1 + 1) [.int .u64 0, .slice none 0 0, .bool false] 0 wx) hgP rfl
  have hfb := BytesV.but hby (But.all (w.heap.size + 1 + 1 + 1) [.int .u64 0, .slice none 0 0, .bool false] 0 wx) hgP rfl
  change DkK (((wx.setCell ⟨w.heap.size + 1 + 1 + 1, 0, none⟩ (.int .u64 0)).setCell ⟨w.heap.size + 1 + 1 + 1, 1, none⟩ (.slice none 0 0)).setCell ⟨w.heap.size + 1 + 1 + 1, 2, none⟩ (.bool false)) _ _ _ _ _ at hfd
  change BytesV (((wx.setCell ⟨w.heap.size + 1 + 1 + 1, 0, none⟩ (.int .u64 0)).setCell ⟨w.heap.size + 1 + 1 + 1, 1, none⟩ (.slice none 0 0)).setCell ⟨w.heap.size + 1 + 1 + 1, 2, none⟩ (.bool false)) _ _ _ _ at hfb
  have p0 : wx.cell? ⟨w.heap.size + 1 + 1 + 1, 0, none⟩ = some (.int .u64 0) := by simp [World.cell?, hgP]
  have pf0 : wx.frozen? ⟨w.heap.size + 1 + 1 + 1, 0, none⟩ = false := by simp [World.frozen?, hgP]
  have p1 : wx.cell? ⟨w.heap.size + 1 + 1 + 1, 1, none⟩ = some (.slice none 0 0) := by simp [World.cell?, hgP]
  have pf1 : wx.frozen? ⟨w.heap.size + 1 + 1 + 1, 1, none⟩ = false := by simp [World.frozen?, hgP]
  have p2 : wx.cell? ⟨w.heap.size + 1 + 1 + 1, 2, none⟩ = some (.bool false) := by simp [World.cell?, hgP]
  have pf2 : wx.frozen? ⟨w.heap.size + 1 + 1 + 1, 2, none⟩ = false := by simp [World.frozen?, hgP]
  clear hx hxs hbut hdk hby
  go_wp2
  generalize (((wx.setCell ⟨w.heap.size + 1 + 1 + 1, 0, none⟩ (.int .u64 0)).setCell ⟨w.heap.size + 1 + 1 + 1, 1, none⟩ (.slice none 0 0)).setCell ⟨w.heap.size + 1 + 1 + 1, 2, none⟩ (.bool false)) = wf at *
  clear p0 p1 p2 pf0 pf1 pf2
  have o0 : wf.cell? ⟨w.heap.size + 1 + 1, 0, none⟩ = some (.int .u64 (RN : Int)) := by simp [World.cell?, hfO]
  have o1 : wf.cell? ⟨w.heap.size + 1 + 1, 1, none⟩ = some (.slice X0 n y0) := by simp [World.cell?, hfO]
  have o2 : wf.cell? ⟨w.heap.size + 1 + 1, 2, none⟩ = some (.slice X1 n y1) := by simp [World.cell?, hfO]
  have p0 : wf.cell? ⟨w.heap.size + 1 + 1 + 1, 0, none⟩ = some (.int .u64 0) := by simp [World.cell?, hfP]
  have p1 : wf.cell? ⟨w.heap.size + 1 + 1 + 1, 1, none⟩ = some (.slice none 0 0) := by simp [World.cell?, hfP]
  have p2 : wf.cell? ⟨w.heap.size + 1 + 1 + 1, 2, none⟩ = some (.bool false) := by simp [World.cell?, hfP]
  refine bodyPost_ret (v := .tuple #[.agg #[.int .u64 (RN : Int), .slice X0 n y0, .slice X1 n y1], .agg #[.int .u64 0, .slice none 0 0, .bool false]]) (by simp [results, Try.results119, go_sem, o0, o1, o2, p0, p1, p2]) rfl ⟨_, _, rfl, hfd, ⟨_, _, _, rfl, hfb⟩, hF⟩
set_option maxRecDepth 100000 in
set_option maxHeartbeats 2000000 in
theorem streams_6 (RN n : Nat) (A0 A1 : Option Addr) (c0 c1 : Nat) (K0 K1 : List Key) (me ce a b : Int) (D : Option Addr) (m cd : Nat) (B : Option Addr) (q2 cb : Nat) (dat : List UInt8) (wd : List Int) (w : World) (hd : DkK w (.agg #[.int .u64 (RN : Int), .slice A0 n c0, .slice A1 n c1]) (RN : Int) n K0 K1) (hR : RN < 18446744073709551616) (hpos : 0 < n) (hn : n ≤ 64) (hB : BytesV w D m cd dat)
  (hm0 : ∀ x ∈ K0, x.1.length + m ≤ 65536) (hm1 : ∀ x ∈ K1, x.1.length + m ≤ 65536) :
  Calls Try.prog 119 #[.agg #[.int .u64 (RN : Int), .slice A0 n c0, .slice A1 n c1], .int .i64 me, .agg #[.int .i64 6, .int .i64 ce, .int .u64 a, .int .u64 b, .slice D m cd, .slice B q2 cb]] w (StrPost (strRoot (RN : Int) ⟨6, ce, a, b, dat, wd⟩) n (strK0 (RN : Int) n me ⟨6, ce, a, b, dat, wd⟩ K0) (strK1 (RN : Int) n me ⟨6, ce, a, b, dat, wd⟩ K1) (strR (RN : Int) ⟨6, ce, a, b, dat, wd⟩ K0 K1) w) := by
 have hs0 : ∀ x ∈ K0, x.1.length ≤ 65536 := fun x hx => by have := hm0 x hx; omega
 have hs1 : ∀ x ∈ K1, x.1.length ≤ 65536 := fun x hx => by have := hm1 x hx; omega
 obtain ⟨rr, hrr, hr2⟩ : ∃ rr, RN % 2 = rr ∧ rr < 2 := ⟨_, rfl, Nat.mod_lt _ (by omega)⟩
 have hri : (RN : Int) % 2 = (rr : Int) := by omega
 have hsub : IntKind.i64.wrap (1 - (rr : Int)) = 1 - (rr : Int) := by rw [IntKind.wrap_i64]; omega
 have hdr := fun v1 v2 W => drow_any RN v1 v2 W hR
 rw [hrr] at hdr
 have e0 : strK0 (RN : Int) n me ⟨6, ce, a, b, dat, wd⟩ K0 = act0 (rr : Int) me synK K0 := by simp [strK0, hri]
 have e1 : strK1 (RN : Int) n me ⟨6, ce, a, b, dat, wd⟩ K1 = act1 (rr : Int) me synK K1 := by simp [strK1, hri]
 have e2 : strRoot (RN : Int) ⟨6, ce, a, b, dat, wd⟩ = (RN : Int) := by simp [strRoot]
 have e3 : strR (RN : Int) ⟨6, ce, a, b, dat, wd⟩ K0 K1 = ResK.zero := by simp [strR, hri]
 rw [e0, e1, e2, e3]
 clear e0 e1 e2 e3 hrr hri
 go_enter Try.func119, Try.ntmps119
 go_upto_region 1 with (fail)
 obtain ⟨hW, hE, hG, hO, hP⟩ := boxes4 w (.cells #[.int .u64 (RN : Int), .slice A0 n c0, .slice A1 n c1] 49) (.cells #[.int .i64 6, .int .i64 ce, .int .u64 a, .int .u64 b, .slice D m cd, .slice B q2 cb] 33) (.cells #[.int .u64 0, .slice none 0 0, .slice none 0 0] 49) (.cells #[.int .u64 0, .slice none 0 0, .bool false] 59)
 generalize (((w.alloc (.cells #[.int .u64 (RN : Int), .slice A0 n c0, .slice A1 n c1] 49)).alloc (.cells #[.int .i64 6, .int .i64 ce, .int .u64 a, .int .u64 b, .slice D m cd, .slice B q2 cb] 33)).alloc (.cells #[.int .u64 0, .slice none 0 0, .slice none 0 0] 49)).alloc (.cells #[.int .u64 0, .slice none 0 0, .bool false] 59) = W at *
 have e0 : W.cell? ⟨w.heap.size, 0, none⟩ = some (.int .u64 (RN : Int)) := by simp [World.cell?, hE]
 have e1 : W.cell? ⟨w.heap.size, 1, none⟩ = some (.slice A0 n c0) := by simp [World.cell?, hE]
 have e2 : W.cell? ⟨w.heap.size, 2, none⟩ = some (.slice A1 n c1) := by simp [World.cell?, hE]
 go_wp2_with fail
 refine (hdr _ _ _).mono ?_
 rintro e w1 ⟨rfl, hx⟩
 replace hE := heap_ext hE hx
 replace hG := heap_ext hG hx
 replace hO := heap_ext hO hx
 replace hP := heap_ext hP hx
 replace hW := hW.trans hx
 clear hx e0 e1 e2 hdr
 go_upto_region 3 with (fail)
 have hx : Ext w1 (w1.alloc (.cells #[.int .u64 0, .slice none 0 0, .bool false] 59)) := (Below.refl _ w1).alloc (Nat.le_refl _) _
 have hQ := heap_alloc_new w1 (.cells #[.int .u64 0, .slice none 0 0, .bool false] 59)
 have hlt : w.heap.size + 1 + 1 + 1 < w1.heap.size := (Array.getElem?_eq_some_iff.1 hP).1
 replace hE := heap_ext hE hx
 replace hG := heap_ext hG hx
 replace hO := heap_ext hO hx
 replace hP := heap_ext hP hx
 replace hW := hW.trans hx
 generalize w1.alloc (.cells #[.int .u64 0, .slice none 0 0, .bool false] 59) = w2 at *
 generalize w1.heap.size = gQ at *
 clear hx
 have e0 : w2.cell? ⟨w.heap.size, 0, none⟩ = some (.int .u64 (RN : Int)) := by simp [World.cell?, hE]
 have ef0 : w2.frozen? ⟨w.heap.size, 0, none⟩ = false := by simp [World.frozen?, hE]
 have e1 : w2.cell? ⟨w.heap.size, 1, none⟩ = some (.slice A0 n c0) := by simp [World.cell?, hE]
 have ef1 : w2.frozen? ⟨w.heap.size, 1, none⟩ = false := by simp [World.frozen?, hE]
 have e2 : w2.cell? ⟨w.heap.size, 2, none⟩ = some (.slice A1 n c1) := by simp [World.cell?, hE]
 have ef2 : w2.frozen? ⟨w.heap.size, 2, none⟩ = false := by simp [World.frozen?, hE]
 have g0 : w2.cell? ⟨w.heap.size + 1, 0, none⟩ = some (.int .i64 6) := by simp [World.cell?, hG]
 have g1 : w2.cell? ⟨w.heap.size + 1, 1, none⟩ = some (.int .i64 ce) := by simp [World.cell?, hG]
 have g2 : w2.cell? ⟨w.heap.size + 1, 2, none⟩ = some (.int .u64 a) := by simp [World.cell?, hG]
 have g3 : w2.cell? ⟨w.heap.size + 1, 3, none⟩ = some (.int .u64 b) := by simp [World.cell?, hG]
 have g4 : w2.cell? ⟨w.heap.size + 1, 4, none⟩ = some (.slice D m cd) := by simp [World.cell?, hG]
 have g5 : w2.cell? ⟨w.heap.size + 1, 5, none⟩ = some (.slice B q2 cb) := by simp [World.cell?, hG]
 go_wp2_with fail
 refine (dsync_K (rr : Int) me (hd.ext hW) (by omega) hs0 hs1).mono ?_
 rintro e w3 ⟨v', rfl, hdk, hx⟩
 obtain ⟨X0, X1, y0, y1, rfl⟩ := hdk.form
 replace hE := heap_ext hE hx
 replace hG := heap_ext hG hx
 replace hO := heap_ext hO hx
 replace hP := heap_ext hP hx
 replace hQ := heap_ext hQ hx
 replace hW := hW.trans hx
 clear hx e0 e1 e2 ef0 ef1 ef2 g0 g1 g2 g3 g4 g5
 have e0 : w3.cell? ⟨w.heap.size, 0, none⟩ = some (.int .u64 (RN : Int)) := by simp [World.cell?, hE]
 have ef0 : w3.frozen? ⟨w.heap.size, 0, none⟩ = false := by simp [World.frozen?, hE]
 have e1 : w3.cell? ⟨w.heap.size, 1, none⟩ = some (.slice A0 n c0) := by simp [World.cell?, hE]
 have ef1 : w3.frozen? ⟨w.heap.size, 1, none⟩ = false := by simp [World.frozen?, hE]
 have e2 : w3.cell? ⟨w.heap.size, 2, none⟩ = some (.slice A1 n c1) := by simp [World.cell?, hE]
 have ef2 : w3.frozen? ⟨w.heap.size, 2, none⟩ = false := by simp [World.frozen?, hE]
 go_upto_region 20 with (fail)
 have hE3 : (((w3.setCell ⟨w.heap.size, 0, none⟩ (.int .u64 (RN : Int))).setCell ⟨w.heap.size, 1, none⟩ (.slice X0 n y0)).setCell ⟨w.heap.size, 2, none⟩ (.slice X1 n y1)).heap[w.heap.size]? = some (.cells #[.int .u64 (RN : Int), .slice X0 n y0, .slice X1 n y1] 49 (0, 0)) := setAll_all (vs := [.int .u64 (RN : Int), .slice X0 n y0, .slice X1 n y1]) hE rfl
 have hQ3 : (((w3.setCell ⟨w.heap.size, 0, none⟩ (.int .u64 (RN : Int))).setCell ⟨w.heap.size, 1, none⟩ (.slice X0 n y0)).setCell ⟨w.heap.size, 2, none⟩ (.slice X1 n y1)).heap[gQ]? = some (.cells #[.int .u64 0, .slice none 0 0, .bool false] 59 (0, 0)) := (setAll_other (g := w.heap.size) (by omega) [.int .u64 (RN : Int), .slice X0 n y0, .slice X1 n y1] 0 w3).trans hQ
 have hO3 : (((w3.setCell ⟨w.heap.size, 0, none⟩ (.int .u64 (RN : Int))).setCell ⟨w.heap.size, 1, none⟩ (.slice X0 n y0)).setCell ⟨w.heap.size, 2, none⟩ (.slice X1 n y1)).heap[w.heap.size + 1 + 1]? = some (.cells #[.int .u64 0, .slice none 0 0, .slice none 0 0] 49 (0, 0)) := (setAll_other (g := w.heap.size) (by omega) [.int .u64 (RN : Int), .slice X0 n y0, .slice X1 n y1] 0 w3).trans hO
 have hP3 : (((w3.setCell ⟨w.heap.size, 0, none⟩ (.int .u64 (RN : Int))).setCell ⟨w.heap.size, 1, none⟩ (.slice X0 n y0)).setCell ⟨w.heap.size, 2, none⟩ (.slice X1 n y1)).heap[w.heap.size + 1 + 1 + 1]? = some (.cells #[.int .u64 0, .slice none 0 0, .bool false] 59 (0, 0)) := (setAll_other (g := w.heap.size) (by omega) [.int .u64 (RN : Int), .slice X0 n y0, .slice X1 n y1] 0 w3).trans hP
 have hW3 : Ext w (((w3.setCell ⟨w.heap.size, 0, none⟩ (.int .u64 (RN : Int))).setCell ⟨w.heap.size, 1, none⟩ (.slice X0 n y0)).setCell ⟨w.heap.size, 2, none⟩ (.slice X1 n y1)) := setAll_ext (g := w.heap.size) (vs := [.int .u64 (RN : Int), .slice X0 n y0, .slice X1 n y1]) (i := 0) hW (Nat.le_refl _)
 replace hdk := hdk.but (But.all w.heap.size [.int .u64 (RN : Int), .slice X0 n y0, .slice X1 n y1] 0 w3) hE rfl
 clear e0 e1 e2 ef0 ef1 ef2 hE hG hO hP hQ hW
 change DkK (((w3.setCell ⟨w.heap.size, 0, none⟩ (.int .u64 (RN : Int))).setCell ⟨w.heap.size, 1, none⟩ (.slice X0 n y0)).setCell ⟨w.heap.size, 2, none⟩ (.slice X1 n y1)) _ _ _ _ _ at hdk
 generalize (((w3.setCell ⟨w.heap.size, 0, none⟩ (.int .u64 (RN : Int))).setCell ⟨w.heap.size, 1, none⟩ (.slice X0 n y0)).setCell ⟨w.heap.size, 2, none⟩ (.slice X1 n y1)) = w4 at *
 have hby := bytes_nil w4
 have HE := Lib.hid hE3
 have HO := Lib.hid hO3
 have HP := Lib.hid hP3
 have HQ := Lib.hid hQ3
 have HW := Lib.hid hW3
 have HLT := Lib.hid hlt
 clear hE3 hO3 hP3 hQ3 hW3 hlt
 obtain ⟨gOO, hOO⟩ : ∃ g, g = w.heap.size + 1 + 1 := ⟨_, rfl⟩
 refine' SB.wp_region_sure (gx := [(2, gOO)]) (Pn := fun _ _ => False) ⟨[(some 86, [], none), (some 87, [], none), (none, [0, 0], none), (none, [1, 2, 0, 1, 2], none)], [0, 0, 1, 7], [none, none, some []], [2]⟩ 3 88 [(0, 86), (1, 87)] [(0, 86), (1, 87)] [.det _, .det _, SB.Good.of (fun v w => w.heap[gOO]? = some (.cells #[.int .u64 (RN : Int), .slice X0 n y0, .slice X1 n y1] 49 (0, 0))) (fun v w w' h hx => heap_ext h hx)] (by kernel_rfl) ?hpan (by kernel_rfl) (by kernel_rfl) rfl (by kernel_rfl) (by kernel_rfl) rfl ?hone ?hend
 case hpan =>
  intro _ _ _ _ h; exact h.elim
 case hone =>
  intro CS frS VS hCS ha hV
  have qs3 := slot_val (t := 3) ha rfl
  simp only [List.getElem_toArray, List.getElem_cons_succ, List.getElem_cons_zero] at qs3
  have qs6 := slot_val (t := 6) ha rfl
  simp only [List.getElem_toArray, List.getElem_cons_succ, List.getElem_cons_zero] at qs6
  have qs9 := slot_val (t := 9) ha rfl
  simp only [List.getElem_toArray, List.getElem_cons_succ, List.getElem_cons_zero] at qs9
  have HCS := Lib.hid hCS
  have HVS := Lib.hid hV
  clear ha hCS hV
  refine SB.sure_det (js := []) (ts := [3]) (gd := none) (bs := []) (SB.place_at HVS.out (k := 0) rfl) (by rw [HCS.out]; kernel_rfl) (by rw [HCS.out]; kernel_rfl) ?_ ?_
  ·intro wx hx ρ hρ hs hf; have hρc := hρ.const; have hρf := hρ.func
   obtain ⟨fx3, -⟩ := hf; rw [qs3] at fx3
   clear hs
   clear HCS HVS qs3 qs6 qs9
   refine SB.run_plain ?_
   have hgd : wx.heap[w.heap.size]? = some (.cells #[.int .u64 (RN : Int), .slice X0 n y0, .slice X1 n y1] 49 (0, 0)) := hx.heap HE.out (by simp)
   have hd0 : wx.cell? ⟨w.heap.size, 0, none⟩ = some (.int .u64 (RN : Int)) := by simp [World.cell?, hgd]
   have hd1 : wx.cell? ⟨w.heap.size, 1, none⟩ = some (.slice X0 n y0) := by simp [World.cell?, hgd]
   have hd2 : wx.cell? ⟨w.heap.size, 2, none⟩ = some (.slice X1 n y1) := by simp [World.cell?, hgd]
   unfold SB.runs
   go_simp
   exact SB.detK.mk
  refine SB.sure_det (js := []) (ts := [9]) (gd := none) (bs := [gOO]) (SB.place_at HVS.out (k := 1) rfl) (by rw [HCS.out]; kernel_rfl) (by rw [HCS.out]; kernel_rfl) ?_ ?_
  ·intro wx hx ρ hρ hs hf; have hρc := hρ.const; have hρf := hρ.func
   obtain ⟨fx9, -⟩ := hf; rw [qs9] at fx9
   clear hs
   clear HCS HVS qs3 qs6 qs9
   refine SB.run_plain ?_
   have hgd : wx.heap[gQ]? = some (.cells #[.int .u64 0, .slice none 0 0, .bool false] 59 (0, 0)) := hx.heap HQ.out (by have := HLT.out; simp; omega)
   have hd0 : wx.cell? ⟨gQ, 0, none⟩ = some (.int .u64 0) := by simp [World.cell?, hgd]
   have hd1 : wx.cell? ⟨gQ, 1, none⟩ = some (.slice none 0 0) := by simp [World.cell?, hgd]
   have hd2 : wx.cell? ⟨gQ, 2, none⟩ = some (.bool false) := by simp [World.cell?, hgd]
   unfold SB.runs
   go_simp
   exact SB.detK.mk
  refine SB.sure_wild (js := [(0, 86)]) (ts := [6]) (gd := none) (bs := []) (cs := [gOO]) (SB.place_at HVS.out (k := 2) rfl) (by rw [HCS.out]; kernel_rfl) (by rw [HCS.out]; kernel_rfl) rfl ?_ ?_
  ·intro wx hx ρ hρ hs hf; have hρc := hρ.const; have hρf := hρ.func; obtain ⟨sn0, -⟩ := hs
   obtain ⟨fx6, -⟩ := hf; rw [qs6] at fx6
   rw [SB.place_at HVS.out (k := 0) rfl] at sn0; replace sn0 : ρ (.tmp 86) = _ := sn0
   clear HCS HVS qs3 qs6 qs9
   refine SB.run_plain ?_
   subst hOO
   have hg : wx.heap[w.heap.size + 1 + 1]? = some (.cells #[.int .u64 0, .slice none 0 0, .slice none 0 0] 49 (0, 0)) := hx.heap HO.out (by simp)
   have f0 : wx.frozen? ⟨w.heap.size + 1 + 1, 0, none⟩ = false := by simp [World.frozen?, hg]
   have f1 : wx.frozen? ⟨w.heap.size + 1 + 1, 1, none⟩ = false := by simp [World.frozen?, hg]
   have f2 : wx.frozen? ⟨w.heap.size + 1 + 1, 2, none⟩ = false := by simp [World.frozen?, hg]
   have c0' : wx.cell? ⟨w.heap.size + 1 + 1, 0, none⟩ = some (.int .u64 0) := by simp [World.cell?, hg]
   have c1' : wx.cell? ⟨w.heap.size + 1 + 1, 1, none⟩ = some (.slice none 0 0) := by simp [World.cell?, hg]
   have c2' : wx.cell? ⟨w.heap.size + 1 + 1, 2, none⟩ = some (.slice none 0 0) := by simp [World.cell?, hg]
   unfold SB.runs
   go_simp
   exact ⟨.ofB ((((ExtB.refl _ _).set _ _).set _ _).set _ _) (by simp), setAll_all (vs := [.int .u64 (RN : Int), .slice X0 n y0, .slice X1 n y1]) hg rfl⟩
  exact trivial
 case hend =>
  intro xs wx hx hg hq
  have gk0 : xs 0 = _ := SB.goods_get hg (i := 0) (j := 0) (d := 86) rfl
  have gk1 : xs 1 = _ := SB.goods_get hg (i := 1) (j := 1) (d := 87) rfl
  obtain ⟨-, gk2⟩ : ∃ v : Value, wx.heap[gOO]? = some (.cells #[.int .u64 (RN : Int), .slice X0 n y0, .slice X1 n y1] 49 (0, 0)) := hq 2 (by decide) (by kernel_rfl)
  clear hg hq
  simp only [putAll, gk0, gk1]
  clear gk0 gk1
  clear xs
  simp only [Act.put, List.setIfInBounds_toArray, List.set_cons_zero, List.set_cons_succ, List.drop_succ_cons, List.drop_zero]
  subst hOO
  have hgO := gk2
  have hxs : SB.ExtS [w.heap.size + 1 + 1] w4.drew wx := hx
  have hbut : But (w.heap.size + 1 + 1) w4 wx := But.exts hxs
  have hgP : wx.heap[w.heap.size + 1 + 1 + 1]? = some (.cells #[.int .u64 0, .slice none 0 0, .bool false] 59 (0, 0)) := hbut _ _ (by omega) HP.out
  have hWx : Ext w wx := extS_base HW.out hxs (by omega)
  replace hdk := hdk.but hbut HO.out rfl
  replace hby := BytesV.but hby hbut HO.out rfl
  have hF : Ext w (((wx.setCell ⟨w.heap.size + 1 + 1 + 1, 0, none⟩ (.int .u64 0)).setCell ⟨w.heap.size + 1 + 1 + 1, 1, none⟩ (.slice none 0 0)).setCell ⟨w.heap.size + 1 + 1 + 1, 2, none⟩ (.bool false)) := setAll_ext (g := w.heap.size + 1 + 1 + 1) (vs := [.int .u64 0, .slice none 0 0, .bool false]) (i := 0) hWx (by omega)
  have hfP : (((wx.setCell ⟨w.heap.size + 1 + 1 + 1, 0, none⟩ (.int .u64 0)).setCell ⟨w.heap.size + 1 + 1 + 1, 1, none⟩ (.slice none 0 0)).setCell ⟨w.heap.size + 1 + 1 + 1, 2, none⟩ (.bool false)).heap[w.heap.size + 1 + 1 + 1]? = some (.cells #[.int .u64 0, .slice none 0 0, .bool false] 59 (0, 0)) := setAll_all (vs := [.int .u64 0, .slice none 0 0, .bool false]) hgP rfl
  have hfO : (((wx.setCell ⟨w.heap.size + 1 + 1 + 1, 0, none⟩ (.int .u64 0)).setCell ⟨w.heap.size + 1 + 1 + 1, 1, none⟩ (.slice none 0 0)).setCell ⟨w.heap.size + 1 + 1 + 1, 2, none⟩ (.bool false)).heap[w.heap.size + 1 + 1]? = some (.cells #[.int .u64 (RN : Int), .slice X0 n y0, .slice X1 n y1] 49 (0, 0)) := (setAll_other (g := w.heap.size + 1 + 1 + 1) (by omega) [.int .u64 0, .slice none 0 0, .bool false] 0 wx).trans hgO
  have hfd := hdk.but (But.all (w.heap.size + 1 + 1 + 1) [.int .u64 0, .slice none 0 0, .bool false] 0 wx) hgP rfl
  have hfb := BytesV.but hby (But.all (w.heap.size + 1 + 1 + 1) [.int .u64 0, .slice none 0 0, .bool false] 0 wx) hgP rfl
  change DkK (((wx.setCell ⟨w.heap.size + 1 + 1 + 1, 0, none⟩ (.int .u64 0)).setCell ⟨w.heap.size + 1 + 1 + 1, 1, none⟩ (.slice none 0 0)).setCell ⟨w.heap.size + 1 + 1 + 1, 2, none⟩ (.bool false)) _ _ _ _ _ at hfd
  change BytesV (((wx.setCell ⟨w.heap.size + 1 + 1 + 1, 0, none⟩ (.int .u64 0)).setCell ⟨w.heap.size + 1 + 1 + 1, 1, none⟩ (.slice none 0 0)).setCell ⟨w.heap.size + 1 + 1 + 1, 2, none⟩ (.bool false)) _ _ _ _ at hfb
  have p0 : wx.cell? ⟨w.heap.size + 1 + 1 + 1, 0, none⟩ = some (.int .u64 0) := by simp [World.cell?, hgP]
  have pf0 : wx.frozen? ⟨w.heap.size + 1 + 1 + 1, 0, none⟩ = false := by simp [World.frozen?, hgP]
  have p1 : wx.cell? ⟨w.heap.size + 1 + 1 + 1, 1, none⟩ = some (.slice none 0 0) := by simp [World.cell?, hgP]
  have pf1 : wx.frozen? ⟨w.heap.size + 1 + 1 + 1, 1, none⟩ = false := by simp [World.frozen?, hgP]
  have p2 : wx.cell? ⟨w.heap.size + 1 + 1 + 1, 2, none⟩ = some (.bool false) := by simp [World.cell?, hgP]
  have pf2 : wx.frozen? ⟨w.heap.size + 1 + 1 + 1, 2, none⟩ = false := by simp [World.frozen?, hgP]
  clear hx hxs hbut hdk hby
  go_wp2
  generalize (((wx.setCell ⟨w.heap.size + 1 + 1 + 1, 0, none⟩ (.int .u64 0)).setCell ⟨w.heap.size + 1 + 1 + 1, 1, none⟩ (.slice none 0 0)).setCell ⟨w.heap.size + 1 + 1 + 1, 2, none⟩ (.bool false)) = wf at *
  clear p0 p1 p2 pf0 pf1 pf2
  have o0 : wf.cell? ⟨w.heap.size + 1 + 1, 0, none⟩ = some (.int .u64 (RN : Int)) := by simp [World.cell?, hfO]
  have o1 : wf.cell? ⟨w.heap.size + 1 + 1, 1, none⟩ = some (.slice X0 n y0) := by simp [World.cell?, hfO]
  have o2 : wf.cell? ⟨w.heap.size + 1 + 1, 2, none⟩ = some (.slice X1 n y1) := by simp [World.cell?, hfO]
  have p0 : wf.cell? ⟨w.heap.size + 1 + 1 + 1, 0, none⟩ = some (.int .u64 0) := by simp [World.cell?, hfP]
  have p1 : wf.cell? ⟨w.heap.size + 1 + 1 + 1, 1, none⟩ = some (.slice none 0 0) := by simp [World.cell?, hfP]
  have p2 : wf.cell? ⟨w.heap.size + 1 + 1 + 1, 2, none⟩ = some (.bool false) := by simp [World.cell?, hfP]
  refine bodyPost_ret (v := .tuple #[.agg #[.int .u64 (RN : Int), .slice X0 n y0, .slice X1 n y1], .agg #[.int .u64 0, .slice none 0 0, .bool false]]) (by simp [results, Try.results119, go_sem, o0, o1, o2, p0, p1, p2]) rfl ⟨_, _, rfl, hfd, ⟨_, _, _, rfl, hfb⟩, hF⟩
set_option maxRecDepth 100000 in
set_option maxHeartbeats 2000000 in
theorem streams_7 (RN n : Nat) (A0 A1 : Option Addr) (c0 c1 : Nat) (K0 K1 : List Key) (me ce a b : Int) (D : Option Addr) (m cd : Nat) (B : Option Addr) (q2 cb : Nat) (dat : List UInt8) (wd : List Int) (w : World) (hd : DkK w (.agg #[.int .u64 (RN : Int), .slice A0 n c0, .slice A1 n c1]) (RN : Int) n K0 K1) (hR : RN < 18446744073709551616) (hpos : 0 < n) (hn : n ≤ 64) (hB : BytesV w D m cd dat)
  (hm0 : ∀ x ∈ K0, x.1.length + m ≤ 65536) (hm1 : ∀ x ∈ K1, x.1.length + m ≤ 65536) :
  Calls Try.prog 119 #[.agg #[.int .u64 (RN : Int), .slice A0 n c0, .slice A1 n c1], .int .i64 me, .agg #[.int .i64 7, .int .i64 ce, .int .u64 a, .int .u64 b, .slice D m cd, .slice B q2 cb]] w (StrPost (strRoot (RN : Int) ⟨7, ce, a, b, dat, wd⟩) n (strK0 (RN : Int) n me ⟨7, ce, a, b, dat, wd⟩ K0) (strK1 (RN : Int) n me ⟨7, ce, a, b, dat, wd⟩ K1) (strR (RN : Int) ⟨7, ce, a, b, dat, wd⟩ K0 K1) w) := by
 have hs0 : ∀ x ∈ K0, x.1.length ≤ 65536 := fun x hx => by have := hm0 x hx; omega
 have hs1 : ∀ x ∈ K1, x.1.length ≤ 65536 := fun x hx => by have := hm1 x hx; omega
 obtain ⟨rr, hrr, hr2⟩ : ∃ rr, RN % 2 = rr ∧ rr < 2 := ⟨_, rfl, Nat.mod_lt _ (by omega)⟩
 have hri : (RN : Int) % 2 = (rr : Int) := by omega
 have hsub : IntKind.i64.wrap (1 - (rr : Int)) = 1 - (rr : Int) := by rw [IntKind.wrap_i64]; omega
 have hdr := fun v1 v2 W => drow_any RN v1 v2 W hR
 rw [hrr] at hdr
 have e0 : strK0 (RN : Int) n me ⟨7, ce, a, b, dat, wd⟩ K0 = K0 := by simp [strK0, hri]
 have e1 : strK1 (RN : Int) n me ⟨7, ce, a, b, dat, wd⟩ K1 = K1 := by simp [strK1, hri]
 have e2 : strRoot (RN : Int) ⟨7, ce, a, b, dat, wd⟩ = (RN : Int) := by simp [strRoot]
 have e3 : strR (RN : Int) ⟨7, ce, a, b, dat, wd⟩ K0 K1 = ⟨(RN : Int), [], false⟩ := by simp [strR, hri]
 rw [e0, e1, e2, e3]
 clear e0 e1 e2 e3 hrr hri
 go_enter Try.func119, Try.ntmps119
 go_upto_region 1 with (fail)
 obtain ⟨hW, hE, hG, hO, hP⟩ := boxes4 w (.cells #[.int .u64 (RN : Int), .slice A0 n c0, .slice A1 n c1] 49) (.cells #[.int .i64 7, .int .i64 ce, .int .u64 a, .int .u64 b, .slice D m cd, .slice B q2 cb] 33) (.cells #[.int .u64 0, .slice none 0 0, .slice none 0 0] 49) (.cells #[.int .u64 0, .slice none 0 0, .bool false] 59)
 generalize (((w.alloc (.cells #[.int .u64 (RN : Int), .slice A0 n c0, .slice A1 n c1] 49)).alloc (.cells #[.int .i64 7, .int .i64 ce, .int .u64 a, .int .u64 b, .slice D m cd, .slice B q2 cb] 33)).alloc (.cells #[.int .u64 0, .slice none 0 0, .slice none 0 0] 49)).alloc (.cells #[.int .u64 0, .slice none 0 0, .bool false] 59) = W at *
 have e0 : W.cell? ⟨w.heap.size, 0, none⟩ = some (.int .u64 (RN : Int)) := by simp [World.cell?, hE]
 have e1 : W.cell? ⟨w.heap.size, 1, none⟩ = some (.slice A0 n c0) := by simp [World.cell?, hE]
 have e2 : W.cell? ⟨w.heap.size, 2, none⟩ = some (.slice A1 n c1) := by simp [World.cell?, hE]
 go_wp2_with fail
 refine (hdr _ _ _).mono ?_
 rintro e w1 ⟨rfl, hx⟩
 replace hE := heap_ext hE hx
 replace hG := heap_ext hG hx
 replace hO := heap_ext hO hx
 replace hP := heap_ext hP hx
 replace hW := hW.trans hx
 clear hx e0 e1 e2 hdr
 go_upto_region 3 with (fail)
 have hx : Ext w1 (w1.alloc (.cells #[.int .u64 0, .slice none 0 0, .bool false] 59)) := (Below.refl _ w1).alloc (Nat.le_refl _) _
 have hQ := heap_alloc_new w1 (.cells #[.int .u64 0, .slice none 0 0, .bool false] 59)
 have hlt : w.heap.size + 1 + 1 + 1 < w1.heap.size := (Array.getElem?_eq_some_iff.1 hP).1
 replace hE := heap_ext hE hx
 replace hG := heap_ext hG hx
 replace hO := heap_ext hO hx
 replace hP := heap_ext hP hx
 replace hW := hW.trans hx
 generalize w1.alloc (.cells #[.int .u64 0, .slice none 0 0, .bool false] 59) = w2 at *
 generalize w1.heap.size = gQ at *
 clear hx
 have e0 : w2.cell? ⟨w.heap.size, 0, none⟩ = some (.int .u64 (RN : Int)) := by simp [World.cell?, hE]
 have ef0 : w2.frozen? ⟨w.heap.size, 0, none⟩ = false := by simp [World.frozen?, hE]
 have e1 : w2.cell? ⟨w.heap.size, 1, none⟩ = some (.slice A0 n c0) := by simp [World.cell?, hE]
 have ef1 : w2.frozen? ⟨w.heap.size, 1, none⟩ = false := by simp [World.frozen?, hE]
 have e2 : w2.cell? ⟨w.heap.size, 2, none⟩ = some (.slice A1 n c1) := by simp [World.cell?, hE]
 have ef2 : w2.frozen? ⟨w.heap.size, 2, none⟩ = false := by simp [World.frozen?, hE]
 have g0 : w2.cell? ⟨w.heap.size + 1, 0, none⟩ = some (.int .i64 7) := by simp [World.cell?, hG]
 have g1 : w2.cell? ⟨w.heap.size + 1, 1, none⟩ = some (.int .i64 ce) := by simp [World.cell?, hG]
 have g2 : w2.cell? ⟨w.heap.size + 1, 2, none⟩ = some (.int .u64 a) := by simp [World.cell?, hG]
 have g3 : w2.cell? ⟨w.heap.size + 1, 3, none⟩ = some (.int .u64 b) := by simp [World.cell?, hG]
 have g4 : w2.cell? ⟨w.heap.size + 1, 4, none⟩ = some (.slice D m cd) := by simp [World.cell?, hG]
 have g5 : w2.cell? ⟨w.heap.size + 1, 5, none⟩ = some (.slice B q2 cb) := by simp [World.cell?, hG]
 have q0 : w2.cell? ⟨gQ, 0, none⟩ = some (.int .u64 0) := by simp [World.cell?, hQ]
 have qf0 : w2.frozen? ⟨gQ, 0, none⟩ = false := by simp [World.frozen?, hQ]
 have q1 : w2.cell? ⟨gQ, 1, none⟩ = some (.slice none 0 0) := by simp [World.cell?, hQ]
 have qf1 : w2.frozen? ⟨gQ, 1, none⟩ = false := by simp [World.frozen?, hQ]
 have q2 : w2.cell? ⟨gQ, 2, none⟩ = some (.bool false) := by simp [World.cell?, hQ]
 have qf2 : w2.frozen? ⟨gQ, 2, none⟩ = false := by simp [World.frozen?, hQ]
 go_upto_region 20 with (fail)
 have hQ3 : (w2.setCell ⟨gQ, 0, none⟩ (.int .u64 (RN : Int))).heap[gQ]? = some (.cells #[.int .u64 (RN : Int), .slice none 0 0, .bool false] 59 (0, 0)) := heap_setCell_at hQ
 have hE3 : (w2.setCell ⟨gQ, 0, none⟩ (.int .u64 (RN : Int))).heap[w.heap.size]? = some (.cells #[.int .u64 (RN : Int), .slice A0 n c0, .slice A1 n c1] 49 (0, 0)) := (Below.heap_setCell _ _ _ _ (by simp; omega)).trans hE
 have hO3 : (w2.setCell ⟨gQ, 0, none⟩ (.int .u64 (RN : Int))).heap[w.heap.size + 1 + 1]? = some (.cells #[.int .u64 0, .slice none 0 0, .slice none 0 0] 49 (0, 0)) := (Below.heap_setCell _ _ _ _ (by simp; omega)).trans hO
 have hP3 : (w2.setCell ⟨gQ, 0, none⟩ (.int .u64 (RN : Int))).heap[w.heap.size + 1 + 1 + 1]? = some (.cells #[.int .u64 0, .slice none 0 0, .bool false] 59 (0, 0)) := (Below.heap_setCell _ _ _ _ (by simp; omega)).trans hP
 have hW3 : Ext w (w2.setCell ⟨gQ, 0, none⟩ (.int .u64 (RN : Int))) := hW.setCell (show w.heap.size ≤ gQ by omega) _
 clear e0 e1 e2 ef0 ef1 ef2 g0 g1 g2 g3 g4 g5 q0 q1 q2 qf0 qf1 qf2 hE hG hO hP hQ
 generalize w2.setCell ⟨gQ, 0, none⟩ (.int .u64 (RN : Int)) = w3 at *
 have hdk := hd.ext hW3
 have hby := bytes_nil w3
 have HE := Lib.hid hE3
 have HO := Lib.hid hO3
 have HP := Lib.hid hP3
 have HQ := Lib.hid hQ3
 have HW := Lib.hid hW3
 have HLT := Lib.hid hlt
 clear hE3 hO3 hP3 hQ3 hW3 hlt
 obtain ⟨gOO, hOO⟩ : ∃ g, g = w.heap.size + 1 + 1 := ⟨_, rfl⟩
 refine' SB.wp_region_sure (gx := [(2, gOO)]) (Pn := fun _ _ => False) ⟨[(some 86, [], none), (some 87, [], none), (none, [0, 0], none), (none, [1, 2, 0, 1, 2], none)], [0, 0, 1, 7], [none, none, some []], [2]⟩ 3 88 [(0, 86), (1, 87)] [(0, 86), (1, 87)] [.det _, .det _, SB.Good.of (fun v w => w.heap[gOO]? = some (.cells #[.int .u64 (RN : Int), .slice A0 n c0, .slice A1 n c1] 49 (0, 0))) (fun v w w' h hx => heap_ext h hx)] (by kernel_rfl) ?hpan (by kernel_rfl) (by kernel_rfl) rfl (by kernel_rfl) (by kernel_rfl) rfl ?hone ?hend
 case hpan =>
  intro _ _ _ _ h; exact h.elim
 case hone =>
  intro CS frS VS hCS ha hV
  have qs3 := slot_val (t := 3) ha rfl
  simp only [List.getElem_toArray, List.getElem_cons_succ, List.getElem_cons_zero] at qs3
  have qs6 := slot_val (t := 6) ha rfl
  simp only [List.getElem_toArray, List.getElem_cons_succ, List.getElem_cons_zero] at qs6
  have qs9 := slot_val (t := 9) ha rfl
  simp only [List.getElem_toArray, List.getElem_cons_succ, List.getElem_cons_zero] at qs9
  have HCS := Lib.hid hCS
  have HVS := Lib.hid hV
  clear ha hCS hV
  refine SB.sure_det (js := []) (ts := [3]) (gd := none) (bs := []) (SB.place_at HVS.out (k := 0) rfl) (by rw [HCS.out]; kernel_rfl) (by rw [HCS.out]; kernel_rfl) ?_ ?_
  ·intro wx hx ρ hρ hs hf; have hρc := hρ.const; have hρf := hρ.func
   obtain ⟨fx3, -⟩ := hf; rw [qs3] at fx3
   clear hs
   clear HCS HVS qs3 qs6 qs9
   refine SB.run_plain ?_
   have hgd : wx.heap[w.heap.size]? = some (.cells #[.int .u64 (RN : Int), .slice A0 n c0, .slice A1 n c1] 49 (0, 0)) := hx.heap HE.out (by simp)
   have hd0 : wx.cell? ⟨w.heap.size, 0, none⟩ = some (.int .u64 (RN : Int)) := by simp [World.cell?, hgd]
   have hd1 : wx.cell? ⟨w.heap.size, 1, none⟩ = some (.slice A0 n c0) := by simp [World.cell?, hgd]
   have hd2 : wx.cell? ⟨w.heap.size, 2, none⟩ = some (.slice A1 n c1) := by simp [World.cell?, hgd]
   unfold SB.runs
   go_simp
   exact SB.detK.mk
  refine SB.sure_det (js := []) (ts := [9]) (gd := none) (bs := [gOO]) (SB.place_at HVS.out (k := 1) rfl) (by rw [HCS.out]; kernel_rfl) (by rw [HCS.out]; kernel_rfl) ?_ ?_
  ·intro wx hx ρ hρ hs hf; have hρc := hρ.const; have hρf := hρ.func
   obtain ⟨fx9, -⟩ := hf; rw [qs9] at fx9
   clear hs
   clear HCS HVS qs3 qs6 qs9
   refine SB.run_plain ?_
   have hgd : wx.heap[gQ]? = some (.cells #[.int .u64 (RN : Int), .slice none 0 0, .bool false] 59 (0, 0)) := hx.heap HQ.out (by have := HLT.out; simp; omega)
   have hd0 : wx.cell? ⟨gQ, 0, none⟩ = some (.int .u64 (RN : Int)) := by simp [World.cell?, hgd]
   have hd1 : wx.cell? ⟨gQ, 1, none⟩ = some (.slice none 0 0) := by simp [World.cell?, hgd]
   have hd2 : wx.cell? ⟨gQ, 2, none⟩ = some (.bool false) := by simp [World.cell?, hgd]
   unfold SB.runs
   go_simp
   exact SB.detK.mk
  refine SB.sure_wild (js := [(0, 86)]) (ts := [6]) (gd := none) (bs := []) (cs := [gOO]) (SB.place_at HVS.out (k := 2) rfl) (by rw [HCS.out]; kernel_rfl) (by rw [HCS.out]; kernel_rfl) rfl ?_ ?_
  ·intro wx hx ρ hρ hs hf; have hρc := hρ.const; have hρf := hρ.func; obtain ⟨sn0, -⟩ := hs
   obtain ⟨fx6, -⟩ := hf; rw [qs6] at fx6
   rw [SB.place_at HVS.out (k := 0) rfl] at sn0; replace sn0 : ρ (.tmp 86) = _ := sn0
   clear HCS HVS qs3 qs6 qs9
   refine SB.run_plain ?_
   subst hOO
   have hg : wx.heap[w.heap.size + 1 + 1]? = some (.cells #[.int .u64 0, .slice none 0 0, .slice none 0 0] 49 (0, 0)) := hx.heap HO.out (by simp)
   have f0 : wx.frozen? ⟨w.heap.size + 1 + 1, 0, none⟩ = false := by simp [World.frozen?, hg]
   have f1 : wx.frozen? ⟨w.heap.size + 1 + 1, 1, none⟩ = false := by simp [World.frozen?, hg]
   have f2 : wx.frozen? ⟨w.heap.size + 1 + 1, 2, none⟩ = false := by simp [World.frozen?, hg]
   have c0' : wx.cell? ⟨w.heap.size + 1 + 1, 0, none⟩ = some (.int .u64 0) := by simp [World.cell?, hg]
   have c1' : wx.cell? ⟨w.heap.size + 1 + 1, 1, none⟩ = some (.slice none 0 0) := by simp [World.cell?, hg]
   have c2' : wx.cell? ⟨w.heap.size + 1 + 1, 2, none⟩ = some (.slice none 0 0) := by simp [World.cell?, hg]
   unfold SB.runs
   go_simp
   exact ⟨.ofB ((((ExtB.refl _ _).set _ _).set _ _).set _ _) (by simp), setAll_all (vs := [.int .u64 (RN : Int), .slice A0 n c0, .slice A1 n c1]) hg rfl⟩
  exact trivial
 case hend =>
  intro xs wx hx hg hq
  have gk0 : xs 0 = _ := SB.goods_get hg (i := 0) (j := 0) (d := 86) rfl
  have gk1 : xs 1 = _ := SB.goods_get hg (i := 1) (j := 1) (d := 87) rfl
  obtain ⟨-, gk2⟩ : ∃ v : Value, wx.heap[gOO]? = some (.cells #[.int .u64 (RN : Int), .slice A0 n c0, .slice A1 n c1] 49 (0, 0)) := hq 2 (by decide) (by kernel_rfl)
  clear hg hq
  simp only [putAll, gk0, gk1]
  clear gk0 gk1
  clear xs
  simp only [Act.put, List.setIfInBounds_toArray, List.set_cons_zero, List.set_cons_succ, List.drop_succ_cons, List.drop_zero]
  subst hOO
  have hgO := gk2
  have hxs : SB.ExtS [w.heap.size + 1 + 1] w3.drew wx := hx
  have hbut : But (w.heap.size + 1 + 1) w3 wx := But.exts hxs
  have hgP : wx.heap[w.heap.size + 1 + 1 + 1]? = some (.cells #[.int .u64 0, .slice none 0 0, .bool false] 59 (0, 0)) := hbut _ _ (by omega) HP.out
  have hWx : Ext w wx := extS_base HW.out hxs (by omega)
  replace hdk := hdk.but hbut HO.out rfl
  replace hby := BytesV.but hby hbut HO.out rfl
  have hF : Ext w (((wx.setCell ⟨w.heap.size + 1 + 1 + 1, 0, none⟩ (.int .u64 (RN : Int))).setCell ⟨w.heap.size + 1 + 1 + 1, 1, none⟩ (.slice none 0 0)).setCell ⟨w.heap.size + 1 + 1 + 1, 2, none⟩ (.bool false)) := setAll_ext (g := w.heap.size + 1 + 1 + 1) (vs := [.int .u64 (RN : Int), .slice none 0 0, .bool false]) (i := 0) hWx (by omega)
  have hfP : (((wx.setCell ⟨w.heap.size + 1 + 1 + 1, 0, none⟩ (.int .u64 (RN : Int))).setCell ⟨w.heap.size + 1 + 1 + 1, 1, none⟩ (.slice none 0 0)).setCell ⟨w.heap.size + 1 + 1 + 1, 2, none⟩ (.bool false)).heap[w.heap.size + 1 + 1 + 1]? = some (.cells #[.int .u64 (RN : Int), .slice none 0 0, .bool false] 59 (0, 0)) := setAll_all (vs := [.int .u64 (RN : Int), .slice none 0 0, .bool false]) hgP rfl
  have hfO : (((wx.setCell ⟨w.heap.size + 1 + 1 + 1, 0, none⟩ (.int .u64 (RN : Int))).setCell ⟨w.heap.size + 1 + 1 + 1, 1, none⟩ (.slice none 0 0)).setCell ⟨w.heap.size + 1 + 1 + 1, 2, none⟩ (.bool false)).heap[w.heap.size + 1 + 1]? = some (.cells #[.int .u64 (RN : Int), .slice A0 n c0, .slice A1 n c1] 49 (0, 0)) := (setAll_other (g := w.heap.size + 1 + 1 + 1) (by omega) [.int .u64 (RN : Int), .slice none 0 0, .bool false] 0 wx).trans hgO
  have hfd := hdk.but (But.all (w.heap.size + 1 + 1 + 1) [.int .u64 (RN : Int), .slice none 0 0, .bool false] 0 wx) hgP rfl
  have hfb := BytesV.but hby (But.all (w.heap.size + 1 + 1 + 1) [.int .u64 (RN : Int), .slice none 0 0, .bool false] 0 wx) hgP rfl
  change DkK (((wx.setCell ⟨w.heap.size + 1 + 1 + 1, 0, none⟩ (.int .u64 (RN : Int))).setCell ⟨w.heap.size + 1 + 1 + 1, 1, none⟩ (.slice none 0 0)).setCell ⟨w.heap.size + 1 + 1 + 1, 2, none⟩ (.bool false)) _ _ _ _ _ at hfd
  change BytesV (((wx.setCell ⟨w.heap.size + 1 + 1 + 1, 0, none⟩ (.int .u64 (RN : Int))).setCell ⟨w.heap.size + 1 + 1 + 1, 1, none⟩ (.slice none 0 0)).setCell ⟨w.heap.size + 1 + 1 + 1, 2, none⟩ (.bool false)) _ _ _ _ at hfb
  have p0 : wx.cell? ⟨w.heap.size + 1 + 1 + 1, 0, none⟩ = some (.int .u64 0) := by simp [World.cell?, hgP]
  have pf0 : wx.frozen? ⟨w.heap.size + 1 + 1 + 1, 0, none⟩ = false := by simp [World.frozen?, hgP]
  have p1 : wx.cell? ⟨w.heap.size + 1 + 1 + 1, 1, none⟩ = some (.slice none 0 0) := by simp [World.cell?, hgP]
  have pf1 : wx.frozen? ⟨w.heap.size + 1 + 1 + 1, 1, none⟩ = false := by simp [World.frozen?, hgP]
  have p2 : wx.cell? ⟨w.heap.size + 1 + 1 + 1, 2, none⟩ = some (.bool false) := by simp [World.cell?, hgP]
  have pf2 : wx.frozen? ⟨w.heap.size + 1 + 1 + 1, 2, none⟩ = false := by simp [World.frozen?, hgP]
  clear hx hxs hbut hdk hby
  go_wp2
  generalize (((wx.setCell ⟨w.heap.size + 1 + 1 + 1, 0, none⟩ (.int .u64 (RN : Int))).setCell ⟨w.heap.size + 1 + 1 + 1, 1, none⟩ (.slice none 0 0)).setCell ⟨w.heap.size + 1 + 1 + 1, 2, none⟩ (.bool false)) = wf at *
  clear p0 p1 p2 pf0 pf1 pf2
  have o0 : wf.cell? ⟨w.heap.size + 1 + 1, 0, none⟩ = some (.int .u64 (RN : Int)) := by simp [World.cell?, hfO]
  have o1 : wf.cell? ⟨w.heap.size + 1 + 1, 1, none⟩ = some (.slice A0 n c0) := by simp [World.cell?, hfO]
  have o2 : wf.cell? ⟨w.heap.size + 1 + 1, 2, none⟩ = some (.slice A1 n c1) := by simp [World.cell?, hfO]
  have p0 : wf.cell? ⟨w.heap.size + 1 + 1 + 1, 0, none⟩ = some (.int .u64 (RN : Int)) := by simp [World.cell?, hfP]
  have p1 : wf.cell? ⟨w.heap.size + 1 + 1 + 1, 1, none⟩ = some (.slice none 0 0) := by simp [World.cell?, hfP]
  have p2 : wf.cell? ⟨w.heap.size + 1 + 1 + 1, 2, none⟩ = some (.bool false) := by simp [World.cell?, hfP]
  refine bodyPost_ret (v := .tuple #[.agg #[.int .u64 (RN : Int), .slice A0 n c0, .slice A1 n c1], .agg #[.int .u64 (RN : Int), .slice none 0 0, .bool false]]) (by simp [results, Try.results119, go_sem, o0, o1, o2, p0, p1, p2]) rfl ⟨_, _, rfl, hfd, ⟨_, _, _, rfl, hfb⟩, hF⟩
set_option maxRecDepth 100000 in
set_option maxHeartbeats 2000000 in
theorem streams_8 (RN n : Nat) (A0 A1 : Option Addr) (c0 c1 : Nat) (K0 K1 : List Key) (me ce a b : Int) (D : Option Addr) (m cd : Nat) (B : Option Addr) (q2 cb : Nat) (dat : List UInt8) (wd : List Int) (w : World) (hd : DkK w (.agg #[.int .u64 (RN : Int), .slice A0 n c0, .slice A1 n c1]) (RN : Int) n K0 K1) (hR : RN < 18446744073709551616) (hpos : 0 < n) (hn : n ≤ 64) (hB : BytesV w D m cd dat)
  (hm0 : ∀ x ∈ K0, x.1.length + m ≤ 65536) (hm1 : ∀ x ∈ K1, x.1.length + m ≤ 65536) :
  Calls Try.prog 119 #[.agg #[.int .u64 (RN : Int), .slice A0 n c0, .slice A1 n c1], .int .i64 me, .agg #[.int .i64 8, .int .i64 ce, .int .u64 a, .int .u64 b, .slice D m cd, .slice B q2 cb]] w (StrPost (strRoot (RN : Int) ⟨8, ce, a, b, dat, wd⟩) n (strK0 (RN : Int) n me ⟨8, ce, a, b, dat, wd⟩ K0) (strK1 (RN : Int) n me ⟨8, ce, a, b, dat, wd⟩ K1) (strR (RN : Int) ⟨8, ce, a, b, dat, wd⟩ K0 K1) w) := by
 have hs0 : ∀ x ∈ K0, x.1.length ≤ 65536 := fun x hx => by have := hm0 x hx; omega
 have hs1 : ∀ x ∈ K1, x.1.length ≤ 65536 := fun x hx => by have := hm1 x hx; omega
 obtain ⟨rr, hrr, hr2⟩ : ∃ rr, RN % 2 = rr ∧ rr < 2 := ⟨_, rfl, Nat.mod_lt _ (by omega)⟩
 have hri : (RN : Int) % 2 = (rr : Int) := by omega
 have hsub : IntKind.i64.wrap (1 - (rr : Int)) = 1 - (rr : Int) := by rw [IntKind.wrap_i64]; omega
 have hdr := fun v1 v2 W => drow_any RN v1 v2 W hR
 rw [hrr] at hdr
 have e0 : strK0 (RN : Int) n me ⟨8, ce, a, b, dat, wd⟩ K0 = K0 := by simp [strK0, hri]
 have e1 : strK1 (RN : Int) n me ⟨8, ce, a, b, dat, wd⟩ K1 = K1 := by simp [strK1, hri]
 have e2 : strRoot (RN : Int) ⟨8, ce, a, b, dat, wd⟩ = (RN : Int) := by simp [strRoot]
 have e3 : strR (RN : Int) ⟨8, ce, a, b, dat, wd⟩ K0 K1 = ⟨0, readK (rr : Int) ce K0 K1, false⟩ := by simp [strR, hri]
 rw [e0, e1, e2, e3]
 clear e0 e1 e2 e3 hrr hri
 go_enter Try.func119, Try.ntmps119
 go_upto_region 1 with (fail)
 obtain ⟨hW, hE, hG, hO, hP⟩ := boxes4 w (.cells #[.int .u64 (RN : Int), .slice A0 n c0, .slice A1 n c1] 49) (.cells #[.int .i64 8, .int .i64 ce, .int .u64 a, .int .u64 b, .slice D m cd, .slice B q2 cb] 33) (.cells #[.int .u64 0, .slice none 0 0, .slice none 0 0] 49) (.cells #[.int .u64 0, .slice none 0 0, .bool false] 59)
 generalize (((w.alloc (.cells #[.int .u64 (RN : Int), .slice A0 n c0, .slice A1 n c1] 49)).alloc (.cells #[.int .i64 8, .int .i64 ce, .int .u64 a, .int .u64 b, .slice D m cd, .slice B q2 cb] 33)).alloc (.cells #[.int .u64 0, .slice none 0 0, .slice none 0 0] 49)).alloc (.cells #[.int .u64 0, .slice none 0 0, .bool false] 59) = W at *
 have e0 : W.cell? ⟨w.heap.size, 0, none⟩ = some (.int .u64 (RN : Int)) := by simp [World.cell?, hE]
 have e1 : W.cell? ⟨w.heap.size, 1, none⟩ = some (.slice A0 n c0) := by simp [World.cell?, hE]
 have e2 : W.cell? ⟨w.heap.size, 2, none⟩ = some (.slice A1 n c1) := by simp [World.cell?, hE]
 go_wp2_with fail
 refine (hdr _ _ _).mono ?_
 rintro e w1 ⟨rfl, hx⟩
 replace hE := heap_ext hE hx
 replace hG := heap_ext hG hx
 replace hO := heap_ext hO hx
 replace hP := heap_ext hP hx
 replace hW := hW.trans hx
 clear hx e0 e1 e2 hdr
 go_upto_region 3 with (fail)
 have hx : Ext w1 (w1.alloc (.cells #[.int .u64 0, .slice none 0 0, .bool false] 59)) := (Below.refl _ w1).alloc (Nat.le_refl _) _
 have hQ := heap_alloc_new w1 (.cells #[.int .u64 0, .slice none 0 0, .bool false] 59)
 have hlt : w.heap.size + 1 + 1 + 1 < w1.heap.size := (Array.getElem?_eq_some_iff.1 hP).1
 replace hE := heap_ext hE hx
 replace hG := heap_ext hG hx
 replace hO := heap_ext hO hx
 replace hP := heap_ext hP hx
 replace hW := hW.trans hx
 generalize w1.alloc (.cells #[.int .u64 0, .slice none 0 0, .bool false] 59) = w2 at *
 generalize w1.heap.size = gQ at *
 clear hx
 have e0 : w2.cell? ⟨w.heap.size, 0, none⟩ = some (.int .u64 (RN : Int)) := by simp [World.cell?, hE]
 have ef0 : w2.frozen? ⟨w.heap.size, 0, none⟩ = false := by simp [World.frozen?, hE]
 have e1 : w2.cell? ⟨w.heap.size, 1, none⟩ = some (.slice A0 n c0) := by simp [World.cell?, hE]
 have ef1 : w2.frozen? ⟨w.heap.size, 1, none⟩ = false := by simp [World.frozen?, hE]
 have e2 : w2.cell? ⟨w.heap.size, 2, none⟩ = some (.slice A1 n c1) := by simp [World.cell?, hE]
 have ef2 : w2.frozen? ⟨w.heap.size, 2, none⟩ = false := by simp [World.frozen?, hE]
 have g0 : w2.cell? ⟨w.heap.size + 1, 0, none⟩ = some (.int .i64 8) := by simp [World.cell?, hG]
 have g1 : w2.cell? ⟨w.heap.size + 1, 1, none⟩ = some (.int .i64 ce) := by simp [World.cell?, hG]
 have g2 : w2.cell? ⟨w.heap.size + 1, 2, none⟩ = some (.int .u64 a) := by simp [World.cell?, hG]
 have g3 : w2.cell? ⟨w.heap.size + 1, 3, none⟩ = some (.int .u64 b) := by simp [World.cell?, hG]
 have g4 : w2.cell? ⟨w.heap.size + 1, 4, none⟩ = some (.slice D m cd) := by simp [World.cell?, hG]
 have g5 : w2.cell? ⟨w.heap.size + 1, 5, none⟩ = some (.slice B q2 cb) := by simp [World.cell?, hG]
 go_wp2_with fail
 refine (dread_K (rr : Int) ce (hd.ext hW) (by omega) hs0 hs1).mono ?_
 rintro e w3 ⟨E, qb, eb, rfl, hby, hx⟩
 replace hE := heap_ext hE hx
 replace hG := heap_ext hG hx
 replace hO := heap_ext hO hx
 replace hP := heap_ext hP hx
 replace hQ := heap_ext hQ hx
 replace hW := hW.trans hx
 clear hx e0 e1 e2 ef0 ef1 ef2 g0 g1 g2 g3 g4 g5
 have q0 : w3.cell? ⟨gQ, 0, none⟩ = some (.int .u64 0) := by simp [World.cell?, hQ]
 have qf0 : w3.frozen? ⟨gQ, 0, none⟩ = false := by simp [World.frozen?, hQ]
 have q1 : w3.cell? ⟨gQ, 1, none⟩ = some (.slice none 0 0) := by simp [World.cell?, hQ]
 have qf1 : w3.frozen? ⟨gQ, 1, none⟩ = false := by simp [World.frozen?, hQ]
 have q2 : w3.cell? ⟨gQ, 2, none⟩ = some (.bool false) := by simp [World.cell?, hQ]
 have qf2 : w3.frozen? ⟨gQ, 2, none⟩ = false := by simp [World.frozen?, hQ]
 go_upto_region 20 with (fail)
 have hQ3 : (w3.setCell ⟨gQ, 1, none⟩ (.slice E qb eb)).heap[gQ]? = some (.cells #[.int .u64 0, .slice E qb eb, .bool false] 59 (0, 0)) := heap_setCell_at hQ
 have hE3 : (w3.setCell ⟨gQ, 1, none⟩ (.slice E qb eb)).heap[w.heap.size]? = some (.cells #[.int .u64 (RN : Int), .slice A0 n c0, .slice A1 n c1] 49 (0, 0)) := (Below.heap_setCell _ _ _ _ (by simp; omega)).trans hE
 have hO3 : (w3.setCell ⟨gQ, 1, none⟩ (.slice E qb eb)).heap[w.heap.size + 1 + 1]? = some (.cells #[.int .u64 0, .slice none 0 0, .slice none 0 0] 49 (0, 0)) := (Below.heap_setCell _ _ _ _ (by simp; omega)).trans hO
 have hP3 : (w3.setCell ⟨gQ, 1, none⟩ (.slice E qb eb)).heap[w.heap.size + 1 + 1 + 1]? = some (.cells #[.int .u64 0, .slice none 0 0, .bool false] 59 (0, 0)) := (Below.heap_setCell _ _ _ _ (by simp; omega)).trans hP
 have hW3 : Ext w (w3.setCell ⟨gQ, 1, none⟩ (.slice E qb eb)) := hW.setCell (show w.heap.size ≤ gQ by omega) _
 replace hby := BytesV.but hby (But.setCell w3 gQ 1 (.slice E qb eb)) hQ rfl
 clear q0 q1 q2 qf0 qf1 qf2 hE hG hO hP hQ
 generalize w3.setCell ⟨gQ, 1, none⟩ (.slice E qb eb) = w4 at *
 have hdk := hd.ext hW3
 have HE := Lib.hid hE3
 have HO := Lib.hid hO3
 have HP := Lib.hid hP3
 have HQ := Lib.hid hQ3
 have HW := Lib.hid hW3
 have HLT := Lib.hid hlt
 clear hE3 hO3 hP3 hQ3 hW3 hlt
 obtain ⟨gOO, hOO⟩ : ∃ g, g = w.heap.size + 1 + 1 := ⟨_, rfl⟩
 refine' SB.wp_region_sure (gx := [(2, gOO)]) (Pn := fun _ _ => False) ⟨[(some 86, [], none), (some 87, [], none), (none, [0, 0], none), (none, [1, 2, 0, 1, 2], none)], [0, 0, 1, 7], [none, none, some []], [2]⟩ 3 88 [(0, 86), (1, 87)] [(0, 86), (1, 87)] [.det _, .det _, SB.Good.of (fun v w => w.heap[gOO]? = some (.cells #[.int .u64 (RN : Int), .slice A0 n c0, .slice A1 n c1] 49 (0, 0))) (fun v w w' h hx => heap_ext h hx)] (by kernel_rfl) ?hpan (by kernel_rfl) (by kernel_rfl) rfl (by kernel_rfl) (by kernel_rfl) rfl ?hone ?hend
 case hpan =>
  intro _ _ _ _ h; exact h.elim
 case hone =>
  intro CS frS VS hCS ha hV
  have qs3 := slot_val (t := 3) ha rfl
  simp only [List.getElem_toArray, List.getElem_cons_succ, List.getElem_cons_zero] at qs3
  have qs6 := slot_val (t := 6) ha rfl
  simp only [List.getElem_toArray, List.getElem_cons_succ, List.getElem_cons_zero] at qs6
  have qs9 := slot_val (t := 9) ha rfl
  simp only [List.getElem_toArray, List.getElem_cons_succ, List.getElem_cons_zero] at qs9
  have HCS := Lib.hid hCS
  have HVS := Lib.hid hV
  clear ha hCS hV
  refine SB.sure_det (js := []) (ts := [3]) (gd := none) (bs := []) (SB.place_at HVS.out (k := 0) rfl) (by rw [HCS.out]; kernel_rfl) (by rw [HCS.out]; kernel_rfl) ?_ ?_
  ·intro wx hx ρ hρ hs hf; have hρc := hρ.const; have hρf := hρ.func
   obtain ⟨fx3, -⟩ := hf; rw [qs3] at fx3
   clear hs
   clear HCS HVS qs3 qs6 qs9
   refine SB.run_plain ?_
   have hgd : wx.heap[w.heap.size]? = some (.cells #[.int .u64 (RN : Int), .slice A0 n c0, .slice A1 n c1] 49 (0, 0)) := hx.heap HE.out (by simp)
   have hd0 : wx.cell? ⟨w.heap.size, 0, none⟩ = some (.int .u64 (RN : Int)) := by simp [World.cell?, hgd]
   have hd1 : wx.cell? ⟨w.heap.size, 1, none⟩ = some (.slice A0 n c0) := by simp [World.cell?, hgd]
   have hd2 : wx.cell? ⟨w.heap.size, 2, none⟩ = some (.slice A1 n c1) := by simp [World.cell?, hgd]
   unfold SB.runs
   go_simp
   exact SB.detK.mk
  refine SB.sure_det (js := []) (ts := [9]) (gd := none) (bs := [gOO]) (SB.place_at HVS.out (k := 1) rfl) (by rw [HCS.out]; kernel_rfl) (by rw [HCS.out]; kernel_rfl) ?_ ?_
  ·intro wx hx ρ hρ hs hf; have hρc := hρ.const; have hρf := hρ.func
   obtain ⟨fx9, -⟩ := hf; rw [qs9] at fx9
   clear hs
   clear HCS HVS qs3 qs6 qs9
   refine SB.run_plain ?_
   have hgd : wx.heap[gQ]? = some (.cells #[.int .u64 0, .slice E qb eb, .bool false] 59 (0, 0)) := hx.heap HQ.out (by have := HLT.out; simp; omega)
   have hd0 : wx.cell? ⟨gQ, 0, none⟩ = some (.int .u64 0) := by simp [World.cell?, hgd]
   have hd1 : wx.cell? ⟨gQ, 1, none⟩ = some (.slice E qb eb) := by simp [World.cell?, hgd]
   have hd2 : wx.cell? ⟨gQ, 2, none⟩ = some (.bool false) := by simp [World.cell?, hgd]
   unfold SB.runs
   go_simp
   exact SB.detK.mk
  refine SB.sure_wild (js := [(0, 86)]) (ts := [6]) (gd := none) (bs := []) (cs := [gOO]) (SB.place_at HVS.out (k := 2) rfl) (by rw [HCS.out]; kernel_rfl) (by rw [HCS.out]; kernel_rfl) rfl ?_ ?_
  ·intro wx hx ρ hρ hs hf; have hρc := hρ.const; have hρf := hρ.func; obtain ⟨sn0, -⟩ := hs
   obtain ⟨fx6, -⟩ := hf; rw [qs6] at fx6
   rw [SB.place_at HVS.out (k := 0) rfl] at sn0; replace sn0 : ρ (.tmp 86) = _ := sn0
   clear HCS HVS qs3 qs6 qs9
   refine SB.run_plain ?_
   subst hOO
   have hg : wx.heap[w.heap.size + 1 + 1]? = some (.cells #[.int .u64 0, .slice none 0 0, .slice none 0 0] 49 (0, 0)) := hx.heap HO.out (by simp)
   have f0 : wx.frozen? ⟨w.heap.size + 1 + 1, 0, none⟩ = false := by simp [World.frozen?, hg]
   have f1 : wx.frozen? ⟨w.heap.size + 1 + 1, 1, none⟩ = false := by simp [World.frozen?, hg]
   have f2 : wx.frozen? ⟨w.heap.size + 1 + 1, 2, none⟩ = false := by simp [World.frozen?, hg]
   have c0' : wx.cell? ⟨w.heap.size + 1 + 1, 0, none⟩ = some (.int .u64 0) := by simp [World.cell?, hg]
   have c1' : wx.cell? ⟨w.heap.size + 1 + 1, 1, none⟩ = some (.slice none 0 0) := by simp [World.cell?, hg]
   have c2' : wx.cell? ⟨w.heap.size + 1 + 1, 2, none⟩ = some (.slice none 0 0) := by simp [World.cell?, hg]
   unfold SB.runs
   go_simp
   exact ⟨.ofB ((((ExtB.refl _ _).set _ _).set _ _).set _ _) (by simp), setAll_all (vs := [.int .u64 (RN : Int), .slice A0 n c0, .slice A1 n c1]) hg rfl⟩
  exact trivial
 case hend =>
  intro xs wx hx hg hq
  have gk0 : xs 0 = _ := SB.goods_get hg (i := 0) (j := 0) (d := 86) rfl
  have gk1 : xs 1 = _ := SB.goods_get hg (i := 1) (j := 1) (d := 87) rfl
  obtain ⟨-, gk2⟩ : ∃ v : Value, wx.heap[gOO]? = some (.cells #[.int .u64 (RN : Int), .slice A0 n c0, .slice A1 n c1] 49 (0, 0)) := hq 2 (by decide) (by kernel_rfl)
  clear hg hq
  simp only [putAll, gk0, gk1]
  clear gk0 gk1
  clear xs
  simp only [Act.put, List.setIfInBounds_toArray, List.set_cons_zero, List.set_cons_succ, List.drop_succ_cons, List.drop_zero]
  subst hOO
  have hgO := gk2
  have hxs : SB.ExtS [w.heap.size + 1 + 1] w4.drew wx := hx
  have hbut : But (w.heap.size + 1 + 1) w4 wx := But.exts hxs
  have hgP : wx.heap[w.heap.size + 1 + 1 + 1]? = some (.cells #[.int .u64 0, .slice none 0 0, .bool false] 59 (0, 0)) := hbut _ _ (by omega) HP.out
  have hWx : Ext w wx := extS_base HW.out hxs (by omega)
  replace hdk := hdk.but hbut HO.out rfl
  replace hby := BytesV.but hby hbut HO.out rfl
  have hF : Ext w (((wx.setCell ⟨w.heap.size + 1 + 1 + 1, 0, none⟩ (.int .u64 0)).setCell ⟨w.heap.size + 1 + 1 + 1, 1, none⟩ (.slice E qb eb)).setCell ⟨w.heap.size + 1 + 1 + 1, 2, none⟩ (.bool false)) := setAll_ext (g := w.heap.size + 1 + 1 + 1) (vs := [.int .u64 0, .slice E qb eb, .bool false]) (i := 0) hWx (by omega)
  have hfP : (((wx.setCell ⟨w.heap.size + 1 + 1 + 1, 0, none⟩ (.int .u64 0)).setCell ⟨w.heap.size + 1 + 1 + 1, 1, none⟩ (.slice E qb eb)).setCell ⟨w.heap.size + 1 + 1 + 1, 2, none⟩ (.bool false)).heap[w.heap.size + 1 + 1 + 1]? = some (.cells #[.int .u64 0, .slice E qb eb, .bool false] 59 (0, 0)) := setAll_all (vs := [.int .u64 0, .slice E qb eb, .bool false]) hgP rfl
  have hfO : (((wx.setCell ⟨w.heap.size + 1 + 1 + 1, 0, none⟩ (.int .u64 0)).setCell ⟨w.heap.size + 1 + 1 + 1, 1, none⟩ (.slice E qb eb)).setCell ⟨w.heap.size + 1 + 1 + 1, 2, none⟩ (.bool false)).heap[w.heap.size + 1 + 1]? = some (.cells #[.int .u64 (RN : Int), .slice A0 n c0, .slice A1 n c1] 49 (0, 0)) := (setAll_other (g := w.heap.size + 1 + 1 + 1) (by omega) [.int .u64 0, .slice E qb eb, .bool false] 0 wx).trans hgO
  have hfd := hdk.but (But.all (w.heap.size + 1 + 1 + 1) [.int .u64 0, .slice E qb eb, .bool false] 0 wx) hgP rfl
  have hfb := BytesV.but hby (But.all (w.heap.size + 1 + 1 + 1) [.int .u64 0, .slice E qb eb, .bool false] 0 wx) hgP rfl
  change DkK (((wx.setCell ⟨w.heap.size + 1 + 1 + 1, 0, none⟩ (.int .u64 0)).setCell ⟨w.heap.size + 1 + 1 + 1, 1, none⟩ (.slice E qb eb)).setCell ⟨w.heap.size + 1 + 1 + 1, 2, none⟩ (.bool false)) _ _ _ _ _ at hfd
  change BytesV (((wx.setCell ⟨w.heap.size + 1 + 1 + 1, 0, none⟩ (.int .u64 0)).setCell ⟨w.heap.size + 1 + 1 + 1, 1, none⟩ (.slice E qb eb)).setCell ⟨w.heap.size + 1 + 1 + 1, 2, none⟩ (.bool false)) _ _ _ _ at hfb
  have p0 : wx.cell? ⟨w.heap.size + 1 + 1 + 1, 0, none⟩ = some (.int .u64 0) := by simp [World.cell?, hgP]
  have pf0 : wx.frozen? ⟨w.heap.size + 1 + 1 + 1, 0, none⟩ = false := by simp [World.frozen?, hgP]
  have p1 : wx.cell? ⟨w.heap.size + 1 + 1 + 1, 1, none⟩ = some (.slice none 0 0) := by simp [World.cell?, hgP]
  have pf1 : wx.frozen? ⟨w.heap.size + 1 + 1 + 1, 1, none⟩ = false := by simp [World.frozen?, hgP]
  have p2 : wx.cell? ⟨w.heap.size + 1 + 1 + 1, 2, none⟩ = some (.bool false) := by simp [World.cell?, hgP]
  have pf2 : wx.frozen? ⟨w.heap.size + 1 + 1 + 1, 2, none⟩ = false := by simp [World.frozen?, hgP]
  clear hx hxs hbut hdk hby
  go_wp2
  generalize (((wx.setCell ⟨w.heap.size + 1 + 1 + 1, 0, none⟩ (.int .u64 0)).setCell ⟨w.heap.size + 1 + 1 + 1, 1, none⟩ (.slice E qb eb)).setCell ⟨w.heap.size + 1 + 1 + 1, 2, none⟩ (.bool false)) = wf at *
  clear p0 p1 p2 pf0 pf1 pf2
  have o0 : wf.cell? ⟨w.heap.size + 1 + 1, 0, none⟩ = some (.int .u64 (RN : Int)) := by simp [World.cell?, hfO]
  have o1 : wf.cell? ⟨w.heap.size + 1 + 1, 1, none⟩ = some (.slice A0 n c0) := by simp [World.cell?, hfO]
  have o2 : wf.cell? ⟨w.heap.size + 1 + 1, 2, none⟩ = some (.slice A1 n c1) := by simp [World.cell?, hfO]
  have p0 : wf.cell? ⟨w.heap.size + 1 + 1 + 1, 0, none⟩ = some (.int .u64 0) := by simp [World.cell?, hfP]
  have p1 : wf.cell? ⟨w.heap.size + 1 + 1 + 1, 1, none⟩ = some (.slice E qb eb) := by simp [World.cell?, hfP]
  have p2 : wf.cell? ⟨w.heap.size + 1 + 1 + 1, 2, none⟩ = some (.bool false) := by simp [World.cell?, hfP]
  refine bodyPost_ret (v := .tuple #[.agg #[.int .u64 (RN : Int), .slice A0 n c0, .slice A1 n c1], .agg #[.int .u64 0, .slice E qb eb, .bool false]]) (by simp [results, Try.results119, go_sem, o0, o1, o2, p0, p1, p2]) rfl ⟨_, _, rfl, hfd, ⟨_, _, _, rfl, hfb⟩, hF⟩
set_option maxRecDepth 100000 in
set_option maxHeartbeats 2000000 in
theorem streams_9 (RN n : Nat) (A0 A1 : Option Addr) (c0 c1 : Nat) (K0 K1 : List Key) (me ce a b : Int) (D : Option Addr) (m cd : Nat) (B : Option Addr) (q2 cb : Nat) (dat : List UInt8) (wd : List Int) (w : World) (hd : DkK w (.agg #[.int .u64 (RN : Int), .slice A0 n c0, .slice A1 n c1]) (RN : Int) n K0 K1) (hR : RN < 18446744073709551616) (hpos : 0 < n) (hn : n ≤ 64) (hB : BytesV w D m cd dat)
  (hm0 : ∀ x ∈ K0, x.1.length + m ≤ 65536) (hm1 : ∀ x ∈ K1, x.1.length + m ≤ 65536) :
  Calls Try.prog 119 #[.agg #[.int .u64 (RN : Int), .slice A0 n c0, .slice A1 n c1], .int .i64 me, .agg #[.int .i64 9, .int .i64 ce, .int .u64 a, .int .u64 b, .slice D m cd, .slice B q2 cb]] w (StrPost (strRoot (RN : Int) ⟨9, ce, a, b, dat, wd⟩) n (strK0 (RN : Int) n me ⟨9, ce, a, b, dat, wd⟩ K0) (strK1 (RN : Int) n me ⟨9, ce, a, b, dat, wd⟩ K1) (strR (RN : Int) ⟨9, ce, a, b, dat, wd⟩ K0 K1) w) := by
 have hs0 : ∀ x ∈ K0, x.1.length ≤ 65536 := fun x hx => by have := hm0 x hx; omega
 have hs1 : ∀ x ∈ K1, x.1.length ≤ 65536 := fun x hx => by have := hm1 x hx; omega
 obtain ⟨rr, hrr, hr2⟩ : ∃ rr, RN % 2 = rr ∧ rr < 2 := ⟨_, rfl, Nat.mod_lt _ (by omega)⟩
 have hri : (RN : Int) % 2 = (rr : Int) := by omega
 have hsub : IntKind.i64.wrap (1 - (rr : Int)) = 1 - (rr : Int) := by rw [IntKind.wrap_i64]; omega
 have hdr := fun v1 v2 W => drow_any RN v1 v2 W hR
 rw [hrr] at hdr
 have e0 : strK0 (RN : Int) n me ⟨9, ce, a, b, dat, wd⟩ K0 = clr0 (1 - (rr : Int)) n K0 := by simp [strK0, hri]
 have e1 : strK1 (RN : Int) n me ⟨9, ce, a, b, dat, wd⟩ K1 = clr1 (1 - (rr : Int)) n K1 := by simp [strK1, hri]
 have e2 : strRoot (RN : Int) ⟨9, ce, a, b, dat, wd⟩ = (RN : Int) := by simp [strRoot]
 have e3 : strR (RN : Int) ⟨9, ce, a, b, dat, wd⟩ K0 K1 = ResK.zero := by simp [strR, hri]
 rw [e0, e1, e2, e3]
 clear e0 e1 e2 e3 hrr hri
 go_enter Try.func119, Try.ntmps119
 go_upto_region 1 with (fail)
 obtain ⟨hW, hE, hG, hO, hP⟩ := boxes4 w (.cells #[.int .u64 (RN : Int), .slice A0 n c0, .slice A1 n c1] 49) (.cells #[.int .i64 9, .int .i64 ce, .int .u64 a, .int .u64 b, .slice D m cd, .slice B q2 cb] 33) (.cells #[.int .u64 0, .slice none 0 0, .slice none 0 0] 49) (.cells #[.int .u64 0, .slice none 0 0, .bool false] 59)
 generalize (((w.alloc (.cells #[.int .u64 (RN : Int), .slice A0 n c0, .slice A1 n c1] 49)).alloc (.cells #[.int .i64 9, .int .i64 ce, .int .u64 a, .int .u64 b, .slice D m cd, .slice B q2 cb] 33)).alloc (.cells #[.int .u64 0, .slice none 0 0, .slice none 0 0] 49)).alloc (.cells #[.int .u64 0, .slice none 0 0, .bool false] 59) = W at *
 have e0 : W.cell? ⟨w.heap.size, 0, none⟩ = some (.int .u64 (RN : Int)) := by simp [World.cell?, hE]
 have e1 : W.cell? ⟨w.heap.size, 1, none⟩ = some (.slice A0 n c0) := by simp [World.cell?, hE]
 have e2 : W.cell? ⟨w.heap.size, 2, none⟩ = some (.slice A1 n c1) := by simp [World.cell?, hE]
 go_wp2_with fail
 refine (hdr _ _ _).mono ?_
 rintro e w1 ⟨rfl, hx⟩
 replace hE := heap_ext hE hx
 replace hG := heap_ext hG hx
 replace hO := heap_ext hO hx
 replace hP := heap_ext hP hx
 replace hW := hW.trans hx
 clear hx e0 e1 e2 hdr
 go_upto_region 3 with (fail)
 have hx : Ext w1 (w1.alloc (.cells #[.int .u64 0, .slice none 0 0, .bool false] 59)) := (Below.refl _ w1).alloc (Nat.le_refl _) _
 have hQ := heap_alloc_new w1 (.cells #[.int .u64 0, .slice none 0 0, .bool false] 59)
 have hlt : w.heap.size + 1 + 1 + 1 < w1.heap.size := (Array.getElem?_eq_some_iff.1 hP).1
 replace hE := heap_ext hE hx
 replace hG := heap_ext hG hx
 replace hO := heap_ext hO hx
 replace hP := heap_ext hP hx
 replace hW := hW.trans hx
 generalize w1.alloc (.cells #[.int .u64 0, .slice none 0 0, .bool false] 59) = w2 at *
 generalize w1.heap.size = gQ at *
 clear hx
 have e0 : w2.cell? ⟨w.heap.size, 0, none⟩ = some (.int .u64 (RN : Int)) := by simp [World.cell?, hE]
 have ef0 : w2.frozen? ⟨w.heap.size, 0, none⟩ = false := by simp [World.frozen?, hE]
 have e1 : w2.cell? ⟨w.heap.size, 1, none⟩ = some (.slice A0 n c0) := by simp [World.cell?, hE]
 have ef1 : w2.frozen? ⟨w.heap.size, 1, none⟩ = false := by simp [World.frozen?, hE]
 have e2 : w2.cell? ⟨w.heap.size, 2, none⟩ = some (.slice A1 n c1) := by simp [World.cell?, hE]
 have ef2 : w2.frozen? ⟨w.heap.size, 2, none⟩ = false := by simp [World.frozen?, hE]
 have g0 : w2.cell? ⟨w.heap.size + 1, 0, none⟩ = some (.int .i64 9) := by simp [World.cell?, hG]
 have g1 : w2.cell? ⟨w.heap.size + 1, 1, none⟩ = some (.int .i64 ce) := by simp [World.cell?, hG]
 have g2 : w2.cell? ⟨w.heap.size + 1, 2, none⟩ = some (.int .u64 a) := by simp [World.cell?, hG]
 have g3 : w2.cell? ⟨w.heap.size + 1, 3, none⟩ = some (.int .u64 b) := by simp [World.cell?, hG]
 have g4 : w2.cell? ⟨w.heap.size + 1, 4, none⟩ = some (.slice D m cd) := by simp [World.cell?, hG]
 have g5 : w2.cell? ⟨w.heap.size + 1, 5, none⟩ = some (.slice B q2 cb) := by simp [World.cell?, hG]
 go_wp2_with fail
 try rw [hsub]
 refine (dclear_K (1 - (rr : Int)) (hd.ext hW) (by omega) hpos).mono ?_
 rintro e w3 ⟨v', rfl, hdk, hx⟩
 obtain ⟨X0, X1, y0, y1, rfl⟩ := hdk.form
 replace hE := heap_ext hE hx
 replace hG := heap_ext hG hx
 replace hO := heap_ext hO hx
 replace hP := heap_ext hP hx
 replace hQ := heap_ext hQ hx
 replace hW := hW.trans hx
 clear hx e0 e1 e2 ef0 ef1 ef2 g0 g1 g2 g3 g4 g5
 have e0 : w3.cell? ⟨w.heap.size, 0, none⟩ = some (.int .u64 (RN : Int)) := by simp [World.cell?, hE]
 have ef0 : w3.frozen? ⟨w.heap.size, 0, none⟩ = false := by simp [World.frozen?, hE]
 have e1 : w3.cell? ⟨w.heap.size, 1, none⟩ = some (.slice A0 n c0) := by simp [World.cell?, hE]
 have ef1 : w3.frozen? ⟨w.heap.size, 1, none⟩ = false := by simp [World.frozen?, hE]
 have e2 : w3.cell? ⟨w.heap.size, 2, none⟩ = some (.slice A1 n c1) := by simp [World.cell?, hE]
 have ef2 : w3.frozen? ⟨w.heap.size, 2, none⟩ = false := by simp [World.frozen?, hE]
 go_upto_region 20 with (fail)
 have hE3 : (((w3.setCell ⟨w.heap.size, 0, none⟩ (.int .u64 (RN : Int))).setCell ⟨w.heap.size, 1, none⟩ (.slice X0 n y0)).setCell ⟨w.heap.size, 2, none⟩ (.slice X1 n y1)).heap[w.heap.size]? = some (.cells #[.int .u64 (RN : Int), .slice X0 n y0, .slice X1 n y1] 49 (0, 0)) := setAll_all (vs := [.int .u64 (RN : Int), .slice X0 n y0, .slice X1 n y1]) hE rfl
 have hQ3 : (((w3.setCell ⟨w.heap.size, 0, none⟩ (.int .u64 (RN : Int))).setCell ⟨w.heap.size, 1, none⟩ (.slice X0 n y0)).setCell ⟨w.heap.size, 2, none⟩ (.slice X1 n y1)).heap[gQ]? = some (.cells #[.int .u64 0, .slice none 0 0, .bool false] 59 (0, 0)) := (setAll_other (g := w.heap.size) (by omega) [.int .u64 (RN : Int), .slice X0 n y0, .slice X1 n y1] 0 w3).trans hQ
 have hO3 : (((w3.setCell ⟨w.heap.size, 0, none⟩ (.int .u64 (RN : Int))).setCell ⟨w.heap.size, 1, none⟩ (.slice X0 n y0)).setCell ⟨w.heap.size, 2, none⟩ (.slice X1 n y1)).heap[w.heap.size + 1 + 1]? = some (.cells #[.int .u64 0, .slice none 0 0, .slice none 0 0] 49 (0, 0)) := (setAll_other (g := w.heap.size) (by omega) [.int .u64 (RN : Int), .slice X0 n y0, .slice X1 n y1] 0 w3).trans hO
 have hP3 : (((w3.setCell ⟨w.heap.size, 0, none⟩ (.int .u64 (RN : Int))).setCell ⟨w.heap.size, 1, none⟩ (.slice X0 n y0)).setCell ⟨w.heap.size, 2, none⟩ (.slice X1 n y1)).heap[w.heap.size + 1 + 1 + 1]? = some (.cells #[.int .u64 0, .slice none 0 0, .bool false] 59 (0, 0)) := (setAll_other (g := w.heap.size) (by omega) [.int .u64 (RN : Int), .slice X0 n y0, .slice X1 n y1] 0 w3).trans hP
 have hW3 : Ext w (((w3.setCell ⟨w.heap.size, 0, none⟩ (.int .u64 (RN : Int))).setCell ⟨w.heap.size, 1, none⟩ (.slice X0 n y0)).setCell ⟨w.heap.size, 2, none⟩ (.slice X1 n y1)) := setAll_ext (g := w.heap.size) (vs := [.int .u64 (RN : Int), .slice X0 n y0, .slice X1 n y1]) (i := 0) hW (Nat.le_refl _)
 replace hdk := hdk.but (But.all w.heap.size [.int .u64 (RN : Int), .slice X0 n y0, .slice X1 n y1] 0 w3) hE rfl
 clear e0 e1 e2 ef0 ef1 ef2 hE hG hO hP hQ hW
 change DkK (((w3.setCell ⟨w.heap.size, 0, none⟩ (.int .u64 (RN : Int))).setCell ⟨w.heap.size, 1, none⟩ (.slice X0 n y0)).setCell ⟨w.heap.size, 2, none⟩ (.slice X1 n y1)) _ _ _ _ _ at hdk
 generalize (((w3.setCell ⟨w.heap.size, 0, none⟩ (.int .u64 (RN : Int))).setCell ⟨w.heap.size, 1, none⟩ (.slice X0 n y0)).setCell ⟨w.heap.size, 2, none⟩ (.slice X1 n y1)) = w4 at *
 have hby := bytes_nil w4
 have HE := Lib.hid hE3
 have HO := Lib.hid hO3
 have HP := Lib.hid hP3
 have HQ := Lib.hid hQ3
 have HW := Lib.hid hW3
 have HLT := Lib.hid hlt
 clear hE3 hO3 hP3 hQ3 hW3 hlt
 obtain ⟨gOO, hOO⟩ : ∃ g, g = w.heap.size + 1 + 1 := ⟨_, rfl⟩
 refine' SB.wp_region_sure (gx := [(2, gOO)]) (Pn := fun _ _ => False) ⟨[(some 86, [], none), (some 87, [], none), (none, [0, 0], none), (none, [1, 2, 0, 1, 2], none)], [0, 0, 1, 7], [none, none, some []], [2]⟩ 3 88 [(0, 86), (1, 87)] [(0, 86), (1, 87)] [.det _, .det _, SB.Good.of (fun v w => w.heap[gOO]? = some (.cells #[.int .u64 (RN : Int), .slice X0 n y0, .slice X1 n y1] 49 (0, 0))) (fun v w w' h hx => heap_ext h hx)] (by kernel_rfl) ?hpan (by kernel_rfl) (by kernel_rfl) rfl (by kernel_rfl) (by kernel_rfl) rfl ?hone ?hend
 case hpan =>
  intro _ _ _ _ h; exact h.elim
 case hone =>
  intro CS frS VS hCS ha hV
  have qs3 := slot_val (t := 3) ha rfl
  simp only [List.getElem_toArray, List.getElem_cons_succ, List.getElem_cons_zero] at qs3
  have qs6 := slot_val (t := 6) ha rfl
  simp only [List.getElem_toArray, List.getElem_cons_succ, List.getElem_cons_zero] at qs6
  have qs9 := slot_val (t := 9) ha rfl
  simp only [List.getElem_toArray, List.getElem_cons_succ, List.getElem_cons_zero] at qs9
  have HCS := Lib.hid hCS
  have HVS := Lib.hid hV
  clear ha hCS hV
  refine SB.sure_det (js := []) (ts := [3]) (gd := none) (bs := []) (SB.place_at HVS.out (k := 0) rfl) (by rw [HCS.out]; kernel_rfl) (by rw [HCS.out]; kernel_rfl) ?_ ?_
  ·intro wx hx ρ hρ hs hf; have hρc := hρ.const; have hρf := hρ.func
   obtain ⟨fx3, -⟩ := hf; rw [qs3] at fx3
   clear hs
   clear HCS HVS qs3 qs6 qs9
   refine SB.run_plain ?_
   have hgd : wx.heap[w.heap.size]? = some (.cells #[.int .u64 (RN : Int), .slice X0 n y0, .slice X1 n y1] 49 (0, 0)) := hx.heap HE.out (by simp)
   have hd0 : wx.cell? ⟨w.heap.size, 0, none⟩ = some (.int .u64 (RN : Int)) := by simp [World.cell?, hgd]
   have hd1 : wx.cell? ⟨w.heap.size, 1, none⟩ = some (.slice X0 n y0) := by simp [World.cell?, hgd]
   have hd2 : wx.cell? ⟨w.heap.size, 2, none⟩ = some (.slice X1 n y1) := by simp [World.cell?, hgd]
   unfold SB.runs
   go_simp
   exact SB.detK.mk
  refine SB.sure_det (js := []) (ts := [9]) (gd := none) (bs := [gOO]) (SB.place_at HVS.out (k := 1) rfl) (by rw [HCS.out]; kernel_rfl) (by rw [HCS.out]; kernel_rfl) ?_ ?_
  ·intro wx hx ρ hρ hs hf; have hρc := hρ.const; have hρf := hρ.func
   obtain ⟨fx9, -⟩ := hf; rw [qs9] at fx9
   clear hs
   clear HCS HVS qs3 qs6 qs9
   refine SB.run_plain ?_
   have hgd : wx.heap[gQ]? = some (.cells #[.int .u64 0, .slice none 0 0, .bool false] 59 (0, 0)) := hx.heap HQ.out (by have := HLT.out; simp; omega)
   have hd0 : wx.cell? ⟨gQ, 0, none⟩ = some (.int .u64 0) := by simp [World.cell?, hgd]
   have hd1 : wx.cell? ⟨gQ, 1, none⟩ = some (.slice none 0 0) := by simp [World.cell?, hgd]
   have hd2 : wx.cell? ⟨gQ, 2, none⟩ = some (.bool false) := by simp [World.cell?, hgd]
   unfold SB.runs
   go_simp
   exact SB.detK.mk
  refine SB.sure_wild (js := [(0, 86)]) (ts := [6]) (gd := none) (bs := []) (cs := [gOO]) (SB.place_at HVS.out (k := 2) rfl) (by rw [HCS.out]; kernel_rfl) (by rw [HCS.out]; kernel_rfl) rfl ?_ ?_
  ·intro wx hx ρ hρ hs hf; have hρc := hρ.const; have hρf := hρ.func; obtain ⟨sn0, -⟩ := hs
   obtain ⟨fx6, -⟩ := hf; rw [qs6] at fx6
   rw [SB.place_at HVS.out (k := 0) rfl] at sn0; replace sn0 : ρ (.tmp 86) = _ := sn0
   clear HCS HVS qs3 qs6 qs9
   refine SB.run_plain ?_
   subst hOO
   have hg : wx.heap[w.heap.size + 1 + 1]? = some (.cells #[.int .u64 0, .slice none 0 0, .slice none 0 0] 49 (0, 0)) := hx.heap HO.out (by simp)
   have f0 : wx.frozen? ⟨w.heap.size + 1 + 1, 0, none⟩ = false := by simp [World.frozen?, hg]
   have f1 : wx.frozen? ⟨w.heap.size + 1 + 1, 1, none⟩ = false := by simp [World.frozen?, hg]
   have f2 : wx.frozen? ⟨w.heap.size + 1 + 1, 2, none⟩ = false := by simp [World.frozen?, hg]
   have c0' : wx.cell? ⟨w.heap.size + 1 + 1, 0, none⟩ = some (.int .u64 0) := by simp [World.cell?, hg]
   have c1' : wx.cell? ⟨w.heap.size + 1 + 1, 1, none⟩ = some (.slice none 0 0) := by simp [World.cell?, hg]
   have c2' : wx.cell? ⟨w.heap.size + 1 + 1, 2, none⟩ = some (.slice none 0 0) := by simp [World.cell?, hg]
   unfold SB.runs
   go_simp
   exact ⟨.ofB ((((ExtB.refl _ _).set _ _).set _ _).set _ _) (by simp), setAll_all (vs := [.int .u64 (RN : Int), .slice X0 n y0, .slice X1 n y1]) hg rfl⟩
  exact trivial
 case hend =>
  intro xs wx hx hg hq
  have gk0 : xs 0 = _ := SB.goods_get hg (i := 0) (j := 0) (d := 86) rfl
  have gk1 : xs 1 = _ := SB.goods_get hg (i := 1) (j := 1) (d := 87) rfl
  obtain ⟨-, gk2⟩ : ∃ v : Value, wx.heap[gOO]? = some (.cells #[.int .u64 (RN : Int), .slice X0 n y0, .slice X1 n y1] 49 (0, 0)) := hq 2 (by decide) (by kernel_rfl)
  clear hg hq
  simp only [putAll, gk0, gk1]
  clear gk0 gk1
  clear xs
  simp only [Act.put, List.setIfInBounds_toArray, List.set_cons_zero, List.set_cons_succ, List.drop_succ_cons, List.drop_zero]
  subst hOO
  have hgO := gk2
  have hxs : SB.ExtS [w.heap.size + 1 + 1] w4.drew wx := hx
  have hbut : But (w.heap.size + 1 + 1) w4 wx := But.exts hxs
  have hgP : wx.heap[w.heap.size + 1 + 1 + 1]? = some (.cells #[.int .u64 0, .slice none 0 0, .bool false] 59 (0, 0)) := hbut _ _ (by omega) HP.out
  have hWx : Ext w wx := extS_base HW.out hxs (by omega)
  replace hdk := hdk.but hbut HO.out rfl
  replace hby := BytesV.but hby hbut HO.out rfl
  have hF : Ext w (((wx.setCell ⟨w.heap.size + 1 + 1 + 1, 0, none⟩ (.int .u64 0)).setCell ⟨w.heap.size + 1 + 1 + 1, 1, none⟩ (.slice none 0 0)).setCell ⟨w.heap.size + 1 + 1 + 1, 2, none⟩ (.bool false)) := setAll_ext (g := w.heap.size + 1 + 1 + 1) (vs := [.int .u64 0, .slice none 0 0, .bool false]) (i := 0) hWx (by omega)
  have hfP : (((wx.setCell ⟨w.heap.size + 1 + 1 + 1, 0, none⟩ (.int .u64 0)).setCell ⟨w.heap.size + 1 + 1 + 1, 1, none⟩ (.slice none 0 0)).setCell ⟨w.heap.size + 1 + 1 + 1, 2, none⟩ (.bool false)).heap[w.heap.size + 1 + 1 + 1]? = some (.cells #[.int .u64 0, .slice none 0 0, .bool false] 59 (0, 0)) := setAll_all (vs := [.int .u64 0, .slice none 0 0, .bool false]) hgP rfl
  have hfO : (((wx.setCell ⟨w.heap.size + 1 + 1 + 1, 0, none⟩ (.int .u64 0)).setCell ⟨w.heap.size + 1 + 1 + 1, 1, none⟩ (.slice none 0 0)).setCell ⟨w.heap.size + 1 + 1 + 1, 2, none⟩ (.bool false)).heap[w.heap.size + 1 + 1]? = some (.cells #[.int .u64 (RN : Int), .slice X0 n y0, .slice X1 n y1] 49 (0, 0)) := (setAll_other (g := w.heap.size + 1 + 1 + 1) (by omega) [.int .u64 0, .slice none 0 0, .bool false] 0 wx).trans hgO
  have hfd := hdk.but (But.all (w.heap.size + 1 + 1 + 1) [.int .u64 0, .slice none 0 0, .bool false] 0 wx) hgP rfl
  have hfb := BytesV.but hby (But.all (w.heap.size + 1 + 1 + 1) [.int .u64 0, .slice none 0 0, .bool false] 0 wx) hgP rfl
  change DkK (((wx.setCell ⟨w.heap.size + 1 + 1 + 1, 0, none⟩ (.int .u64 0)).setCell ⟨w.heap.size + 1 + 1 + 1, 1, none⟩ (.slice none 0 0)).setCell ⟨w.heap.size + 1 + 1 + 1, 2, none⟩ (.bool false)) _ _ _ _ _ at hfd
  change BytesV (((wx.setCell ⟨w.heap.size + 1 + 1 + 1, 0, none⟩ (.int .u64 0)).setCell ⟨w.heap.size + 1 + 1 + 1, 1, none⟩ (.slice none 0 0)).setCell ⟨w.heap.size + 1 + 1 + 1, 2, none⟩ (.bool false)) _ _ _ _ at hfb
  have p0 : wx.cell? ⟨w.heap.size + 1 + 1 + 1, 0, none⟩ = some (.int .u64 0) := by simp [World.cell?, hgP]
  have pf0 : wx.frozen? ⟨w.heap.size + 1 + 1 + 1, 0, none⟩ = false := by simp [World.frozen?, hgP]
  have p1 : wx.cell? ⟨w.heap.size + 1 + 1 + 1, 1, none⟩ = some (.slice none 0 0) := by simp [World.cell?, hgP]
  have pf1 : wx.frozen? ⟨w.heap.size + 1 + 1 + 1, 1, none⟩ = false := by simp [World.frozen?, hgP]
  have p2 : wx.cell? ⟨w.heap.size + 1 + 1 + 1, 2, none⟩ = some (.bool false) := by simp [World.cell?, hgP]
  have pf2 : wx.frozen? ⟨w.heap.size + 1 + 1 + 1, 2, none⟩ = false := by simp [World.frozen?, hgP]
  clear hx hxs hbut hdk hby
  go_wp2
  generalize (((wx.setCell ⟨w.heap.size + 1 + 1 + 1, 0, none⟩ (.int .u64 0)).setCell ⟨w.heap.size + 1 + 1 + 1, 1, none⟩ (.slice none 0 0)).setCell ⟨w.heap.size + 1 + 1 + 1, 2, none⟩ (.bool false)) = wf at *
  clear p0 p1 p2 pf0 pf1 pf2
  have o0 : wf.cell? ⟨w.heap.size + 1 + 1, 0, none⟩ = some (.int .u64 (RN : Int)) := by simp [World.cell?, hfO]
  have o1 : wf.cell? ⟨w.heap.size + 1 + 1, 1, none⟩ = some (.slice X0 n y0) := by simp [World.cell?, hfO]
  have o2 : wf.cell? ⟨w.heap.size + 1 + 1, 2, none⟩ = some (.slice X1 n y1) := by simp [World.cell?, hfO]
  have p0 : wf.cell? ⟨w.heap.size + 1 + 1 + 1, 0, none⟩ = some (.int .u64 0) := by simp [World.cell?, hfP]
  have p1 : wf.cell? ⟨w.heap.size + 1 + 1 + 1, 1, none⟩ = some (.slice none 0 0) := by simp [World.cell?, hfP]
  have p2 : wf.cell? ⟨w.heap.size + 1 + 1 + 1, 2, none⟩ = some (.bool false) := by simp [World.cell?, hfP]
  refine bodyPost_ret (v := .tuple #[.agg #[.int .u64 (RN : Int), .slice X0 n y0, .slice X1 n y1], .agg #[.int .u64 0, .slice none 0 0, .bool false]]) (by simp [results, Try.results119, go_sem, o0, o1, o2, p0, p1, p2]) rfl ⟨_, _, rfl, hfd, ⟨_, _, _, rfl, hfb⟩, hF⟩
set_option maxRecDepth 100000 in
set_option maxHeartbeats 2000000 in
theorem streams_10 (RN n : Nat) (A0 A1 : Option Addr) (c0 c1 : Nat) (K0 K1 : List Key) (me ce a b : Int) (D : Option Addr) (m cd : Nat) (B : Option Addr) (q2 cb : Nat) (dat : List UInt8) (wd : List Int) (w : World) (hd : DkK w (.agg #[.int .u64 (RN : Int), .slice A0 n c0, .slice A1 n c1]) (RN : Int) n K0 K1) (hR : RN < 18446744073709551616) (hpos : 0 < n) (hn : n ≤ 64) (hB : BytesV w D m cd dat)
  (hm0 : ∀ x ∈ K0, x.1.length + m ≤ 65536) (hm1 : ∀ x ∈ K1, x.1.length + m ≤ 65536) :
  Calls Try.prog 119 #[.agg #[.int .u64 (RN : Int), .slice A0 n c0, .slice A1 n c1], .int .i64 me, .agg #[.int .i64 10, .int .i64 ce, .int .u64 a, .int .u64 b, .slice D m cd, .slice B q2 cb]] w (StrPost (strRoot (RN : Int) ⟨10, ce, a, b, dat, wd⟩) n (strK0 (RN : Int) n me ⟨10, ce, a, b, dat, wd⟩ K0) (strK1 (RN : Int) n me ⟨10, ce, a, b, dat, wd⟩ K1) (strR (RN : Int) ⟨10, ce, a, b, dat, wd⟩ K0 K1) w) := by
 have hs0 : ∀ x ∈ K0, x.1.length ≤ 65536 := fun x hx => by have := hm0 x hx; omega
 have hs1 : ∀ x ∈ K1, x.1.length ≤ 65536 := fun x hx => by have := hm1 x hx; omega
 obtain ⟨rr, hrr, hr2⟩ : ∃ rr, RN % 2 = rr ∧ rr < 2 := ⟨_, rfl, Nat.mod_lt _ (by omega)⟩
 have hri : (RN : Int) % 2 = (rr : Int) := by omega
 have hsub : IntKind.i64.wrap (1 - (rr : Int)) = 1 - (rr : Int) := by rw [IntKind.wrap_i64]; omega
 have hdr := fun v1 v2 W => drow_any RN v1 v2 W hR
 rw [hrr] at hdr
 have e0 : strK0 (RN : Int) n me ⟨10, ce, a, b, dat, wd⟩ K0 = act0 (1 - (rr : Int)) 0 (appK dat) K0 := by simp [strK0, hri]
 have e1 : strK1 (RN : Int) n me ⟨10, ce, a, b, dat, wd⟩ K1 = act1 (1 - (rr : Int)) 0 (appK dat) K1 := by simp [strK1, hri]
 have e2 : strRoot (RN : Int) ⟨10, ce, a, b, dat, wd⟩ = (RN : Int) := by simp [strRoot]
 have e3 : strR (RN : Int) ⟨10, ce, a, b, dat, wd⟩ K0 K1 = ResK.zero := by simp [strR, hri]
 rw [e0, e1, e2, e3]
 clear e0 e1 e2 e3 hrr hri
 go_enter Try.func119, Try.ntmps119
 go_upto_region 1 with (fail)
 obtain ⟨hW, hE, hG, hO, hP⟩ := boxes4 w (.cells #[.int .u64 (RN : Int), .slice A0 n c0, .slice A1 n c1] 49) (.cells #[.int .i64 10, .int .i64 ce, .int .u64 a, .int .u64 b, .slice D m cd, .slice B q2 cb] 33) (.cells #[.int .u64 0, .slice none 0 0, .slice none 0 0] 49) (.cells #[.int .u64 0, .slice none 0 0, .bool false] 59)
 generalize (((w.alloc (.cells #[.int .u64 (RN : Int), .slice A0 n c0, .slice A1 n c1] 49)).alloc (.cells #[.int .i64 10, .int .i64 ce, .int .u64 a, .int .u64 b, .slice D m cd, .slice B q2 cb] 33)).alloc (.cells #[.int .u64 0, .slice none 0 0, .slice none 0 0] 49)).alloc (.cells #[.int .u64 0, .slice none 0 0, .bool false] 59) = W at *
 have e0 : W.cell? ⟨w.heap.size, 0, none⟩ = some (.int .u64 (RN : Int)) := by simp [World.cell?, hE]
 have e1 : W.cell? ⟨w.heap.size, 1, none⟩ = some (.slice A0 n c0) := by simp [World.cell?, hE]
 have e2 : W.cell? ⟨w.heap.size, 2, none⟩ = some (.slice A1 n c1) := by simp [World.cell?, hE]
 go_wp2_with fail
 refine (hdr _ _ _).mono ?_
 rintro e w1 ⟨rfl, hx⟩
 replace hE := heap_ext hE hx
 replace hG := heap_ext hG hx
 replace hO := heap_ext hO hx
 replace hP := heap_ext hP hx
 replace hW := hW.trans hx
 clear hx e0 e1 e2 hdr
 go_upto_region 3 with (fail)
 have hx : Ext w1 (w1.alloc (.cells #[.int .u64 0, .slice none 0 0, .bool false] 59)) := (Below.refl _ w1).alloc (Nat.le_refl _) _
 have hQ := heap_alloc_new w1 (.cells #[.int .u64 0, .slice none 0 0, .bool false] 59)
 have hlt : w.heap.size + 1 + 1 + 1 < w1.heap.size := (Array.getElem?_eq_some_iff.1 hP).1
 replace hE := heap_ext hE hx
 replace hG := heap_ext hG hx
 replace hO := heap_ext hO hx
 replace hP := heap_ext hP hx
 replace hW := hW.trans hx
 generalize w1.alloc (.cells #[.int .u64 0, .slice none 0 0, .bool false] 59) = w2 at *
 generalize w1.heap.size = gQ at *
 clear hx
 have e0 : w2.cell? ⟨w.heap.size, 0, none⟩ = some (.int .u64 (RN : Int)) := by simp [World.cell?, hE]
 have ef0 : w2.frozen? ⟨w.heap.size, 0, none⟩ = false := by simp [World.frozen?, hE]
 have e1 : w2.cell? ⟨w.heap.size, 1, none⟩ = some (.slice A0 n c0) := by simp [World.cell?, hE]
 have ef1 : w2.frozen? ⟨w.heap.size, 1, none⟩ = false := by simp [World.frozen?, hE]
 have e2 : w2.cell? ⟨w.heap.size, 2, none⟩ = some (.slice A1 n c1) := by simp [World.cell?, hE]
 have ef2 : w2.frozen? ⟨w.heap.size, 2, none⟩ = false := by simp [World.frozen?, hE]
 have g0 : w2.cell? ⟨w.heap.size + 1, 0, none⟩ = some (.int .i64 10) := by simp [World.cell?, hG]
 have g1 : w2.cell? ⟨w.heap.size + 1, 1, none⟩ = some (.int .i64 ce) := by simp [World.cell?, hG]
 have g2 : w2.cell? ⟨w.heap.size + 1, 2, none⟩ = some (.int .u64 a) := by simp [World.cell?, hG]
 have g3 : w2.cell? ⟨w.heap.size + 1, 3, none⟩ = some (.int .u64 b) := by simp [World.cell?, hG]
 have g4 : w2.cell? ⟨w.heap.size + 1, 4, none⟩ = some (.slice D m cd) := by simp [World.cell?, hG]
 have g5 : w2.cell? ⟨w.heap.size + 1, 5, none⟩ = some (.slice B q2 cb) := by simp [World.cell?, hG]
 go_wp2_with fail
 try rw [hsub]
 refine (dappend_K (1 - (rr : Int)) 0 (hd.ext hW) (by omega) (hB.ext hW) hm0 hm1).mono ?_
 rintro e w3 ⟨v', rfl, hdk, hx⟩
 obtain ⟨X0, X1, y0, y1, rfl⟩ := hdk.form
 replace hE := heap_ext hE hx
 replace hG := heap_ext hG hx
 replace hO := heap_ext hO hx
 replace hP := heap_ext hP hx
 replace hQ := heap_ext hQ hx
 replace hW := hW.trans hx
 clear hx e0 e1 e2 ef0 ef1 ef2 g0 g1 g2 g3 g4 g5
 have e0 : w3.cell? ⟨w.heap.size, 0, none⟩ = some (.int .u64 (RN : Int)) := by simp [World.cell?, hE]
 have ef0 : w3.frozen? ⟨w.heap.size, 0, none⟩ = false := by simp [World.frozen?, hE]
 have e1 : w3.cell? ⟨w.heap.size, 1, none⟩ = some (.slice A0 n c0) := by simp [World.cell?, hE]
 have ef1 : w3.frozen? ⟨w.heap.size, 1, none⟩ = false := by simp [World.frozen?, hE]
 have e2 : w3.cell? ⟨w.heap.size, 2, none⟩ = some (.slice A1 n c1) := by simp [World.cell?, hE]
 have ef2 : w3.frozen? ⟨w.heap.size, 2, none⟩ = false := by simp [World.frozen?, hE]
 go_upto_region 20 with (fail)
 have hE3 : (((w3.setCell ⟨w.heap.size, 0, none⟩ (.int .u64 (RN : Int))).setCell ⟨w.heap.size, 1, none⟩ (.slice X0 n y0)).setCell ⟨w.heap.size, 2, none⟩ (.slice X1 n y1)).heap[w.heap.size]? = some (.cells #[.int .u64 (RN : Int), .slice X0 n y0, .slice X1 n y1] 49 (0, 0)) := setAll_all (vs := [.int .u64 (RN : Int), .slice X0 n y0, .slice X1 n y1]) hE rfl
 have hQ3 : (((w3.setCell ⟨w.heap.size, 0, none⟩ (.int .u64 (RN : Int))).setCell ⟨w.heap.size, 1, none⟩ (.slice X0 n y0)).setCell ⟨w.heap.size, 2, none⟩ (.slice X1 n y1)).heap[gQ]? = some (.cells #[.int .u64 0, .slice none 0 0, .bool false] 59 (0, 0)) := (setAll_other (g := w.heap.size) (by omega) [.int .u64 (RN : Int), .slice X0 n y0, .slice X1 n y1] 0 w3).trans hQ
 have hO3 : (((w3.setCell ⟨w.heap.size, 0, none⟩ (.int .u64 (RN : Int))).setCell ⟨w.heap.size, 1, none⟩ (.slice X0 n y0)).setCell ⟨w.heap.size, 2, none⟩ (.slice X1 n y1)).heap[w.heap.size + 1 + 1]? = some (.cells #[.int .u64 0, .slice none 0 0, .slice none 0 0] 49 (0, 0)) := (setAll_other (g := w.heap.size) (by omega) [.int .u64 (RN : Int), .slice X0 n y0, .slice X1 n y1] 0 w3).trans hO
 have hP3 : (((w3.setCell ⟨w.heap.size, 0, none⟩ (.int .u64 (RN : Int))).setCell ⟨w.heap.size, 1, none⟩ (.slice X0 n y0)).setCell ⟨w.heap.size, 2, none⟩ (.slice X1 n y1)).heap[w.heap.size + 1 + 1 + 1]? = some (.cells #[.int .u64 0, .slice none 0 0, .bool false] 59 (0, 0)) := (setAll_other (g := w.heap.size) (by omega) [.int .u64 (RN : Int), .slice X0 n y0, .slice X1 n y1] 0 w3).trans hP
 have hW3 : Ext w (((w3.setCell ⟨w.heap.size, 0, none⟩ (.int .u64 (RN : Int))).setCell ⟨w.heap.size, 1, none⟩ (.slice X0 n y0)).setCell ⟨w.heap.size, 2, none⟩ (.slice X1 n y1)) := setAll_ext (g := w.heap.size) (vs := [.int .u64 (RN : Int), .slice X0 n y0, .slice X1 n y1]) (i := 0) hW (Nat.le_refl _)
 replace hdk := hdk.but (But.all w.heap.size [.int .u64 (RN : Int), .slice X0 n y0, .slice X1 n y1] 0 w3) hE rfl
 clear e0 e1 e2 ef0 ef1 ef2 hE hG hO hP hQ hW
 change DkK (((w3.setCell ⟨w.heap.size, 0, none⟩ (.int .u64 (RN : Int))).setCell ⟨w.heap.size, 1, none⟩ (.slice X0 n y0)).setCell ⟨w.heap.size, 2, none⟩ (.slice X1 n y1)) _ _ _ _ _ at hdk
 generalize (((w3.setCell ⟨w.heap.size, 0, none⟩ (.int .u64 (RN : Int))).setCell ⟨w.heap.size, 1, none⟩ (.slice X0 n y0)).setCell ⟨w.heap.size, 2, none⟩ (.slice X1 n y1)) = w4 at *
 have hby := bytes_nil w4
 have HE := Lib.hid hE3
 have HO := Lib.hid hO3
 have HP := Lib.hid hP3
 have HQ := Lib.hid hQ3
 have HW := Lib.hid hW3
 have HLT := Lib.hid hlt
 clear hE3 hO3 hP3 hQ3 hW3 hlt
 obtain ⟨gOO, hOO⟩ : ∃ g, g = w.heap.size + 1 + 1 := ⟨_, rfl⟩
 refine' SB.wp_region_sure (gx := [(2, gOO)]) (Pn := fun _ _ => False) ⟨[(some 86, [], none), (some 87, [], none), (none, [0, 0], none), (none, [1, 2, 0, 1, 2], none)], [0, 0, 1, 7], [none, none, some []], [2]⟩ 3 88 [(0, 86), (1, 87)] [(0, 86), (1, 87)] [.det _, .det _, SB.Good.of (fun v w => w.heap[gOO]? = some (.cells #[.int .u64 (RN : Int), .slice X0 n y0, .slice X1 n y1] 49 (0, 0))) (fun v w w' h hx => heap_ext h hx)] (by kernel_rfl) ?hpan (by kernel_rfl) (by kernel_rfl) rfl (by kernel_rfl) (by kernel_rfl) rfl ?hone ?hend
 case hpan =>
  intro _ _ _ _ h; exact h.elim
 case hone =>
  intro CS frS VS hCS ha hV
  have qs3 := slot_val (t := 3) ha rfl
  simp only [List.getElem_toArray, List.getElem_cons_succ, List.getElem_cons_zero] at qs3
  have qs6 := slot_val (t := 6) ha rfl
  simp only [List.getElem_toArray, List.getElem_cons_succ, List.getElem_cons_zero] at qs6
  have qs9 := slot_val (t := 9) ha rfl
  simp only [List.getElem_toArray, List.getElem_cons_succ, List.getElem_cons_zero] at qs9
  have HCS := Lib.hid hCS
  have HVS := Lib.hid hV
  clear ha hCS hV
  refine SB.sure_det (js := []) (ts := [3]) (gd := none) (bs := []) (SB.place_at HVS.out (k := 0) rfl) (by rw [HCS.out]; kernel_rfl) (by rw [HCS.out]; kernel_rfl) ?_ ?_
  ·intro wx hx ρ hρ hs hf; have hρc := hρ.const; have hρf := hρ.func
   obtain ⟨fx3, -⟩ := hf; rw [qs3] at fx3
   clear hs
   clear HCS HVS qs3 qs6 qs9
   refine SB.run_plain ?_
   have hgd : wx.heap[w.heap.size]? = some (.cells #[.int .u64 (RN : Int), .slice X0 n y0, .slice X1 n y1] 49 (0, 0)) := hx.heap HE.out (by simp)
   have hd0 : wx.cell? ⟨w.heap.size, 0, none⟩ = some (.int .u64 (RN : Int)) := by simp [World.cell?, hgd]
   have hd1 : wx.cell? ⟨w.heap.size, 1, none⟩ = some (.slice X0 n y0) := by simp [World.cell?, hgd]
   have hd2 : wx.cell? ⟨w.heap.size, 2, none⟩ = some (.slice X1 n y1) := by simp [World.cell?, hgd]
   unfold SB.runs
   go_simp
   exact SB.detK.mk
  refine SB.sure_det (js := []) (ts := [9]) (gd := none) (bs := [gOO]) (SB.place_at HVS.out (k := 1) rfl) (by rw [HCS.out]; kernel_rfl) (by rw [HCS.out]; kernel_rfl) ?_ ?_
  ·intro wx hx ρ hρ hs hf; have hρc := hρ.const; have hρf := hρ.func
   obtain ⟨fx9, -⟩ := hf; rw [qs9] at fx9
   clear hs
   clear HCS HVS qs3 qs6 qs9
   refine SB.run_plain ?_
   have hgd : wx.heap[gQ]? = some (.cells #[.int .u64 0, .slice none 0 0, .bool false] 59 (0, 0)) := hx.heap HQ.out (by have := HLT.out; simp; omega)
   have hd0 : wx.cell? ⟨gQ, 0, none⟩ = some (.int .u64 0) := by simp [World.cell?, hgd]
   have hd1 : wx.cell? ⟨gQ, 1, none⟩ = some (.slice none 0 0) := by simp [World.cell?, hgd]
   have hd2 : wx.cell? ⟨gQ, 2, none⟩ = some (.bool false) := by simp [World.cell?, hgd]
   unfold SB.runs
   go_simp
   exact SB.detK.mk
  refine SB.sure_wild (js := [(0, 86)]) (ts := [6]) (gd := none) (bs := []) (cs := [gOO]) (SB.place_at HVS.out (k := 2) rfl) (by rw [HCS.out]; kernel_rfl) (by rw [HCS.out]; kernel_rfl) rfl ?_ ?_
  ·intro wx hx ρ hρ hs hf; have hρc := hρ.const; have hρf := hρ.func; obtain ⟨sn0, -⟩ := hs
   obtain ⟨fx6, -⟩ := hf; rw [qs6] at fx6
   rw [SB.place_at HVS.out (k := 0) rfl] at sn0; replace sn0 : ρ (.tmp 86) = _ := sn0
   clear HCS HVS qs3 qs6 qs9
   refine SB.run_plain ?_
   subst hOO
   have hg : wx.heap[w.heap.size + 1 + 1]? = some (.cells #[.int .u64 0, .slice none 0 0, .slice none 0 0] 49 (0, 0)) := hx.heap HO.out (by simp)
   have f0 : wx.frozen? ⟨w.heap.size + 1 + 1, 0, none⟩ = false := by simp [World.frozen?, hg]
   have f1 : wx.frozen? ⟨w.heap.size + 1 + 1, 1, none⟩ = false := by simp [World.frozen?, hg]
   have f2 : wx.frozen? ⟨w.heap.size + 1 + 1, 2, none⟩ = false := by simp [World.frozen?, hg]
   have c0' : wx.cell? ⟨w.heap.size + 1 + 1, 0, none⟩ = some (.int .u64 0) := by simp [World.cell?, hg]
   have c1' : wx.cell? ⟨w.heap.size + 1 + 1, 1, none⟩ = some (.slice none 0 0) := by simp [World.cell?, hg]
   have c2' : wx.cell? ⟨w.heap.size + 1 + 1, 2, none⟩ = some (.slice none 0 0) := by simp [World.cell?, hg]
   unfold SB.runs
   go_simp
   exact ⟨.ofB ((((ExtB.refl _ _).set _ _).set _ _).set _ _) (by simp), setAll_all (vs := [.int .u64 (RN : Int), .slice X0 n y0, .slice X1 n y1]) hg rfl⟩
  exact trivial
 case hend =>
  intro xs wx hx hg hq
  have gk0 : xs 0 = _ := SB.goods_get hg (i := 0) (j := 0) (d := 86) rfl
  have gk1 : xs 1 = _ := SB.goods_get hg (i := 1) (j := 1) (d := 87) rfl
  obtain ⟨-, gk2⟩ : ∃ v : Value, wx.heap[gOO]? = some (.cells #[.int .u64 (RN : Int), .slice X0 n y0, .slice X1 n y1] 49 (0, 0)) := hq 2 (by decide) (by kernel_rfl)
  clear hg hq
  simp only [putAll, gk0, gk1]
  clear gk0 gk1
  clear xs
  simp only [Act.put, List.setIfInBounds_toArray, List.set_cons_zero, List.set_cons_succ, List.drop_succ_cons, List.drop_zero]
  subst hOO
  have hgO := gk2
  have hxs : SB.ExtS [w.heap.size + 1 + 1] w4.drew wx := hx
  have hbut : But (w.heap.size + 1 + 1) w4 wx := But.exts hxs
  have hgP : wx.heap[w.heap.size + 1 + 1 + 1]? = some (.cells #[.int .u64 0, .slice none 0 0, .bool false] 59 (0, 0)) := hbut _ _ (by omega) HP.out
  have hWx : Ext w wx := extS_base HW.out hxs (by omega)
  replace hdk := hdk.but hbut HO.out rfl
  replace hby := BytesV.but hby hbut HO.out rfl
  have hF : Ext w (((wx.setCell ⟨w.heap.size + 1 + 1 + 1, 0, none⟩ (.int .u64 0)).setCell ⟨w.heap.size + 1 + 1 + 1, 1, none⟩ (.slice none 0 0)).setCell ⟨w.heap.size + 1 + 1 + 1, 2, none⟩ (.bool false)) := setAll_ext (g := w.heap.size + 1 + 1 + 1) (vs := [.int .u64 0, .slice none 0 0, .bool false]) (i := 0) hWx (by omega)
  have hfP : (((wx.setCell ⟨w.heap.size + 1 + 1 + 1, 0, none⟩ (.int .u64 0)).setCell ⟨w.heap.size + 1 + 1 + 1, 1, none⟩ (.slice none 0 0)).setCell ⟨w.heap.size + 1 + 1 + 1, 2, none⟩ (.bool false)).heap[w.heap.size + 1 + 1 + 1]? = some (.cells #[.int .u64 0, .slice none 0 0, .bool false] 59 (0, 0)) := setAll_all (vs := [.int .u64 0, .slice none 0 0, .bool false]) hgP rfl
  have hfO : (((wx.setCell ⟨w.heap.size + 1 + 1 + 1, 0, none⟩ (.int .u64 0)).setCell ⟨w.heap.size + 1 + 1 + 1, 1, none⟩ (.slice none 0 0)).setCell ⟨w.heap.size + 1 + 1 + 1, 2, none⟩ (.bool false)).heap[w.heap.size + 1 + 1]? = some (.cells #[.int .u64 (RN : Int), .slice X0 n y0, .slice X1 n y1] 49 (0, 0)) := (setAll_other (g := w.heap.size + 1 + 1 + 1) (by omega) [.int .u64 0, .slice none 0 0, .bool false] 0 wx).trans hgO
  have hfd := hdk.but (But.all (w.heap.size + 1 + 1 + 1) [.int .u64 0, .slice none 0 0, .bool false] 0 wx) hgP rfl
  have hfb := BytesV.but hby (But.all (w.heap.size + 1 + 1 + 1) [.int .u64 0, .slice none 0 0, .bool false] 0 wx) hgP rfl
  change DkK (((wx.setCell ⟨w.heap.size + 1 + 1 + 1, 0, none⟩ (.int .u64 0)).setCell ⟨w.heap.size + 1 + 1 + 1, 1, none⟩ (.slice none 0 0)).setCell ⟨w.heap.size + 1 + 1 + 1, 2, none⟩ (.bool false)) _ _ _ _ _ at hfd
  change BytesV (((wx.setCell ⟨w.heap.size + 1 + 1 + 1, 0, none⟩ (.int .u64 0)).setCell ⟨w.heap.size + 1 + 1 + 1, 1, none⟩ (.slice none 0 0)).setCell ⟨w.heap.size + 1 + 1 + 1, 2, none⟩ (.bool false)) _ _ _ _ at hfb
  have p0 : wx.cell? ⟨w.heap.size + 1 + 1 + 1, 0, none⟩ = some (.int .u64 0) := by simp [World.cell?, hgP]
  have pf0 : wx.frozen? ⟨w.heap.size + 1 + 1 + 1, 0, none⟩ = false := by simp [World.frozen?, hgP]
  have p1 : wx.cell? ⟨w.heap.size + 1 + 1 + 1, 1, none⟩ = some (.slice none 0 0) := by simp [World.cell?, hgP]
  have pf1 : wx.frozen? ⟨w.heap.size + 1 + 1 + 1, 1, none⟩ = false := by simp [World.frozen?, hgP]
  have p2 : wx.cell? ⟨w.heap.size + 1 + 1 + 1, 2, none⟩ = some (.bool false) := by simp [World.cell?, hgP]
  have pf2 : wx.frozen? ⟨w.heap.size + 1 + 1 + 1, 2, none⟩ = false := by simp [World.frozen?, hgP]
  clear hx hxs hbut hdk hby
  go_wp2
  generalize (((wx.setCell ⟨w.heap.size + 1 + 1 + 1, 0, none⟩ (.int .u64 0)).setCell ⟨w.heap.size + 1 + 1 + 1, 1, none⟩ (.slice none 0 0)).setCell ⟨w.heap.size + 1 + 1 + 1, 2, none⟩ (.bool false)) = wf at *
  clear p0 p1 p2 pf0 pf1 pf2
  have o0 : wf.cell? ⟨w.heap.size + 1 + 1, 0, none⟩ = some (.int .u64 (RN : Int)) := by simp [World.cell?, hfO]
  have o1 : wf.cell? ⟨w.heap.size + 1 + 1, 1, none⟩ = some (.slice X0 n y0) := by simp [World.cell?, hfO]
  have o2 : wf.cell? ⟨w.heap.size + 1 + 1, 2, none⟩ = some (.slice X1 n y1) := by simp [World.cell?, hfO]
  have p0 : wf.cell? ⟨w.heap.size + 1 + 1 + 1, 0, none⟩ = some (.int .u64 0) := by simp [World.cell?, hfP]
  have p1 : wf.cell? ⟨w.heap.size + 1 + 1 + 1, 1, none⟩ = some (.slice none 0 0) := by simp [World.cell?, hfP]
  have p2 : wf.cell? ⟨w.heap.size + 1 + 1 + 1, 2, none⟩ = some (.bool false) := by simp [World.cell?, hfP]
  refine bodyPost_ret (v := .tuple #[.agg #[.int .u64 (RN : Int), .slice X0 n y0, .slice X1 n y1], .agg #[.int .u64 0, .slice none 0 0, .bool false]]) (by simp [results, Try.results119, go_sem, o0, o1, o2, p0, p1, p2]) rfl ⟨_, _, rfl, hfd, ⟨_, _, _, rfl, hfb⟩, hF⟩
set_option maxRecDepth 100000 in
set_option maxHeartbeats 2000000 in
theorem streams_11 (RN n : Nat) (A0 A1 : Option Addr) (c0 c1 : Nat) (K0 K1 : List Key) (me ce a b : Int) (D : Option Addr) (m cd : Nat) (B : Option Addr) (q2 cb : Nat) (dat : List UInt8) (wd : List Int) (w : World) (hd : DkK w (.agg #[.int .u64 (RN : Int), .slice A0 n c0, .slice A1 n c1]) (RN : Int) n K0 K1) (hR : RN < 18446744073709551616) (hpos : 0 < n) (hn : n ≤ 64) (hB : BytesV w D m cd dat)
  (hm0 : ∀ x ∈ K0, x.1.length + m ≤ 65536) (hm1 : ∀ x ∈ K1, x.1.length + m ≤ 65536) :
  Calls Try.prog 119 #[.agg #[.int .u64 (RN : Int), .slice A0 n c0, .slice A1 n c1], .int .i64 me, .agg #[.int .i64 11, .int .i64 ce, .int .u64 a, .int .u64 b, .slice D m cd, .slice B q2 cb]] w (StrPost (strRoot (RN : Int) ⟨11, ce, a, b, dat, wd⟩) n (strK0 (RN : Int) n me ⟨11, ce, a, b, dat, wd⟩ K0) (strK1 (RN : Int) n me ⟨11, ce, a, b, dat, wd⟩ K1) (strR (RN : Int) ⟨11, ce, a, b, dat, wd⟩ K0 K1) w) := by
 have hs0 : ∀ x ∈ K0, x.1.length ≤ 65536 := fun x hx => by have := hm0 x hx; omega
 have hs1 : ∀ x ∈ K1, x.1.length ≤ 65536 := fun x hx => by have := hm1 x hx; omega
 obtain ⟨rr, hrr, hr2⟩ : ∃ rr, RN % 2 = rr ∧ rr < 2 := ⟨_, rfl, Nat.mod_lt _ (by omega)⟩
 have hri : (RN : Int) % 2 = (rr : Int) := by omega
 have hsub : IntKind.i64.wrap (1 - (rr : Int)) = 1 - (rr : Int) := by rw [IntKind.wrap_i64]; omega
 have hdr := fun v1 v2 W => drow_any RN v1 v2 W hR
 rw [hrr] at hdr
 have e0 : strK0 (RN : Int) n me ⟨11, ce, a, b, dat, wd⟩ K0 = act0 (1 - (rr : Int)) 0 synK K0 := by simp [strK0, hri]
 have e1 : strK1 (RN : Int) n me ⟨11, ce, a, b, dat, wd⟩ K1 = act1 (1 - (rr : Int)) 0 synK K1 := by simp [strK1, hri]
 have e2 : strRoot (RN : Int) ⟨11, ce, a, b, dat, wd⟩ = (RN : Int) := by simp [strRoot]
 have e3 : strR (RN : Int) ⟨11, ce, a, b, dat, wd⟩ K0 K1 = ResK.zero := by simp [strR, hri]
 rw [e0, e1, e2, e3]
 clear e0 e1 e2 e3 hrr hri
 go_enter Try.func119, Try.ntmps119
 go_upto_region 1 with (fail)
 obtain ⟨hW, hE, hG, hO, hP⟩ := boxes4 w (.cells #[.int .u64 (RN : Int), .slice A0 n c0, .slice A1 n c1] 49) (.cells #[.int .i64 11, .int .i64 ce, .int .u64 a, .int .u64 b, .slice D m cd, .slice B q2 cb] 33) (.cells #[.int .u64 0, .slice none 0 0, .slice none 0 0] 49) (.cells #[.int .u64 0, .slice none 0 0, .bool false] 59)
 generalize (((w.alloc (.cells #[.int .u64 (RN : Int), .slice A0 n c0, .slice A1 n c1] 49)).alloc (.cells #[.int .i64 11, .int .i64 ce, .int .u64 a, .int .u64 b, .slice D m cd, .slice B q2 cb] 33)).alloc (.cells #[.int .u64 0, .slice none 0 0, .slice none 0 0] 49)).alloc (.cells #[.int .u64 0, .slice none 0 0, .bool false] 59) = W at *
 have e0 : W.cell? ⟨w.heap.size, 0, none⟩ = some (.int .u64 (RN : Int)) := by simp [World.cell?, hE]
 have e1 : W.cell? ⟨w.heap.size, 1, none⟩ = some (.slice A0 n c0) := by simp [World.cell?, hE]
 have e2 : W.cell? ⟨w.heap.size, 2, none⟩ = some (.slice A1 n c1) := by simp [World.cell?, hE]
 go_wp2_with fail
 refine (hdr _ _ _).mono ?_
 rintro e w1 ⟨rfl, hx⟩
 replace hE := heap_ext hE hx
 replace hG := heap_ext hG hx
 replace hO := heap_ext hO hx
 replace hP := heap_ext hP hx
 replace hW := hW.trans hx
 clear hx e0 e1 e2 hdr
 go_upto_region 3 with (fail)
 have hx : Ext w1 (w1.alloc (.cells #[.int .u64 0, .slice none 0 0, .bool false] 59)) := (Below.refl _ w1).alloc (Nat.le_refl _) _
 have hQ := heap_alloc_new w1 (.cells #[.int .u64 0, .slice none 0 0, .bool false] 59)
 have hlt : w.heap.size + 1 + 1 + 1 < w1.heap.size := (Array.getElem?_eq_some_iff.1 hP).1
 replace hE := heap_ext hE hx
 replace hG := heap_ext hG hx
 replace hO := heap_ext hO hx
 replace hP := heap_ext hP hx
 replace hW := hW.trans hx
 generalize w1.alloc (.cells #[.int .u64 0, .slice none 0 0, .bool false] 59) = w2 at *
 generalize w1.heap.size = gQ at *
 clear hx
 have e0 : w2.cell? ⟨w.heap.size, 0, none⟩ = some (.int .u64 (RN : Int)) := by simp [World.cell?, hE]
 have ef0 : w2.frozen? ⟨w.heap.size, 0, none⟩ = false := by simp [World.frozen?, hE]
 have e1 : w2.cell? ⟨w.heap.size, 1, none⟩ = some (.slice A0 n c0) := by simp [World.cell?, hE]
 have ef1 : w2.frozen? ⟨w.heap.size, 1, none⟩ = false := by simp [World.frozen?, hE]
 have e2 : w2.cell? ⟨w.heap.size, 2, none⟩ = some (.slice A1 n c1) := by simp [World.cell?, hE]
 have ef2 : w2.frozen? ⟨w.heap.size, 2, none⟩ = false := by simp [World.frozen?, hE]
 have g0 : w2.cell? ⟨w.heap.size + 1, 0, none⟩ = some (.int .i64 11) := by simp [World.cell?, hG]
 have g1 : w2.cell? ⟨w.heap.size + 1, 1, none⟩ = some (.int .i64 ce) := by simp [World.cell?, hG]
 have g2 : w2.cell? ⟨w.heap.size + 1, 2, none⟩ = some (.int .u64 a) := by simp [World.cell?, hG]
 have g3 : w2.cell? ⟨w.heap.size + 1, 3, none⟩ = some (.int .u64 b) := by simp [World.cell?, hG]
 have g4 : w2.cell? ⟨w.heap.size + 1, 4, none⟩ = some (.slice D m cd) := by simp [World.cell?, hG]
 have g5 : w2.cell? ⟨w.heap.size + 1, 5, none⟩ = some (.slice B q2 cb) := by simp [World.cell?, hG]
 go_wp2_with fail
 try rw [hsub]
 refine (dsync_K (1 - (rr : Int)) 0 (hd.ext hW) (by omega) hs0 hs1).mono ?_
 rintro e w3 ⟨v', rfl, hdk, hx⟩
 obtain ⟨X0, X1, y0, y1, rfl⟩ := hdk.form
 replace hE := heap_ext hE hx
 replace hG := heap_ext hG hx
 replace hO := heap_ext hO hx
 replace hP := heap_ext hP hx
 replace hQ := heap_ext hQ hx
 replace hW := hW.trans hx
 clear hx e0 e1 e2 ef0 ef1 ef2 g0 g1 g2 g3 g4 g5
 have e0 : w3.cell? ⟨w.heap.size, 0, none⟩ = some (.int .u64 (RN : Int)) := by simp [World.cell?, hE]
 have ef0 : w3.frozen? ⟨w.heap.size, 0, none⟩ = false := by simp [World.frozen?, hE]
 have e1 : w3.cell? ⟨w.heap.size, 1, none⟩ = some (.slice A0 n c0) := by simp [World.cell?, hE]
 have ef1 : w3.frozen? ⟨w.heap.size, 1, none⟩ = false := by simp [World.frozen?, hE]
 have e2 : w3.cell? ⟨w.heap.size, 2, none⟩ = some (.slice A1 n c1) := by simp [World.cell?, hE]
 have ef2 : w3.frozen? ⟨w.heap.size, 2, none⟩ = false := by simp [World.frozen?, hE]
 go_upto_region 20 with (fail)
 have hE3 : (((w3.setCell ⟨w.heap.size, 0, none⟩ (.int .u64 (RN : Int))).setCell ⟨w.heap.size, 1, none⟩ (.slice X0 n y0)).setCell ⟨w.heap.size, 2, none⟩ (.slice X1 n y1)).heap[w.heap.size]? = some (.cells #[.int .u64 (RN : Int), .slice X0 n y0, .slice X1 n y1] 49 (0, 0)) := setAll_all (vs := [.int .u64 (RN : Int), .slice X0 n y0, .slice X1 n y1]) hE rfl
 have hQ3 : (((w3.setCell ⟨w.heap.size, 0, none⟩ (.int .u64 (RN : Int))).setCell ⟨w.heap.size, 1, none⟩ (.slice X0 n y0)).setCell ⟨w.heap.size, 2, none⟩ (.slice X1 n y1)).heap[gQ]? = some (.cells #[.int .u64 0, .slice none 0 0, .bool false] 59 (0, 0)) := (setAll_other (g := w.heap.size) (by omega) [.int .u64 (RN : Int), .slice X0 n y0, .slice X1 n y1] 0 w3).trans hQ
 have hO3 : (((w3.setCell ⟨w.heap.size, 0, none⟩ (.int .u64 (RN : Int))).setCell ⟨w.heap.size, 1, none⟩ (.slice X0 n y0)).setCell ⟨w.heap.size, 2, none⟩ (.slice X1 n y1)).heap[w.heap.size + 1 + 1]? = some (.cells #[.int .u64 0, .slice none 0 0, .slice none 0 0] 49 (0, 0)) := (setAll_other (g := w.heap.size) (by omega) [.int .u64 (RN : Int), .slice X0 n y0, .slice X1 n y1] 0 w3).trans hO
 have hP3 : (((w3.setCell ⟨w.heap.size, 0, none⟩ (.int .u64 (RN : Int))).setCell ⟨w.heap.size, 1, none⟩ (.slice X0 n y0)).setCell ⟨w.heap.size, 2, none⟩ (.slice X1 n y1)).heap[w.heap.size + 1 + 1 + 1]? = some (.cells #[.int .u64 0, .slice none 0 0, .bool false] 59 (0, 0)) := (setAll_other (g := w.heap.size) (by omega) [.int .u64 (RN : Int), .slice X0 n y0, .slice X1 n y1] 0 w3).trans hP
 have hW3 : Ext w (((w3.setCell ⟨w.heap.size, 0, none⟩ (.int .u64 (RN : Int))).setCell ⟨w.heap.size, 1, none⟩ (.slice X0 n y0)).setCell ⟨w.heap.size, 2, none⟩ (.slice X1 n y1)) := setAll_ext (g := w.heap.size) (vs := [.int .u64 (RN : Int), .slice X0 n y0, .slice X1 n y1]) (i := 0) hW (Nat.le_refl _)
 replace hdk := hdk.but (But.all w.heap.size [.int .u64 (RN : Int), .slice X0 n y0, .slice X1 n y1] 0 w3) hE rfl
 clear e0 e1 e2 ef0 ef1 ef2 hE hG hO hP hQ hW
 change DkK (((w3.setCell ⟨w.heap.size, 0, none⟩ (.int .u64 (RN : Int))).setCell ⟨w.heap.size, 1, none⟩ (.slice X0 n y0)).setCell ⟨w.heap.size, 2, none⟩ (.slice X1 n y1)) _ _ _ _ _ at hdk
 generalize (((w3.setCell ⟨w.heap.size, 0, none⟩ (.int .u64 (RN : Int))).setCell ⟨w.heap.size, 1, none⟩ (.slice X0 n y0)).setCell ⟨w.heap.size, 2, none⟩ (.slice X1 n y1)) = w4 at *
 have hby := bytes_nil w4
 have HE := Lib.hid hE3
 have HO := Lib.hid hO3
 have HP := Lib.hid hP3
 have HQ := Lib.hid hQ3
 have HW := Lib.hid hW3
 have HLT := Lib.hid hlt
 clear hE3 hO3 hP3 hQ3 hW3 hlt
 obtain ⟨gOO, hOO⟩ : ∃ g, g = w.heap.size + 1 + 1 := ⟨_, rfl⟩
 refine' SB.wp_region_sure (gx := [(2, gOO)]) (Pn := fun _ _ => False) ⟨[(some 86, [], none), (some 87, [], none), (none, [0, 0], none), (none, [1, 2, 0, 1, 2], none)], [0, 0, 1, 7], [none, none, some []], [2]⟩ 3 88 [(0, 86), (1, 87)] [(0, 86), (1, 87)] [.det _, .det _, SB.Good.of (fun v w => w.heap[gOO]? = some (.cells #[.int .u64 (RN : Int), .slice X0 n y0, .slice X1 n y1] 49 (0, 0))) (fun v w w' h hx => heap_ext h hx)] (by kernel_rfl) ?hpan (by kernel_rfl) (by kernel_rfl) rfl (by kernel_rfl) (by kernel_rfl) rfl ?hone ?hend
 case hpan =>
  intro _ _ _ _ h; exact h.elim
 case hone =>
  intro CS frS VS hCS ha hV
  have qs3 := slot_val (t := 3) ha rfl
  simp only [List.getElem_toArray, List.getElem_cons_succ, List.getElem_cons_zero] at qs3
  have qs6 := slot_val (t := 6) ha rfl
  simp only [List.getElem_toArray, List.getElem_cons_succ, List.getElem_cons_zero] at qs6
  have qs9 := slot_val (t := 9) ha rfl
  simp only [List.getElem_toArray, List.getElem_cons_succ, List.getElem_cons_zero] at qs9
  have HCS := Lib.hid hCS
  have HVS := Lib.hid hV
  clear ha hCS hV
  refine SB.sure_det (js := []) (ts := [3]) (gd := none) (bs := []) (SB.place_at HVS.out (k := 0) rfl) (by rw [HCS.out]; kernel_rfl) (by rw [HCS.out]; kernel_rfl) ?_ ?_
  ·intro wx hx ρ hρ hs hf; have hρc := hρ.const; have hρf := hρ.func
   obtain ⟨fx3, -⟩ := hf; rw [qs3] at fx3
   clear hs
   clear HCS HVS qs3 qs6 qs9
   refine SB.run_plain ?_
   have hgd : wx.heap[w.heap.size]? = some (.cells #[.int .u64 (RN : Int), .slice X0 n y0, .slice X1 n y1] 49 (0, 0)) := hx.heap HE.out (by simp)
   have hd0 : wx.cell? ⟨w.heap.size, 0, none⟩ = some (.int .u64 (RN : Int)) := by simp [World.cell?, hgd]
   have hd1 : wx.cell? ⟨w.heap.size, 1, none⟩ = some (.slice X0 n y0) := by simp [World.cell?, hgd]
   have hd2 : wx.cell? ⟨w.heap.size, 2, none⟩ = some (.slice X1 n y1) := by simp [World.cell?, hgd]
   unfold SB.runs
   go_simp
   exact SB.detK.mk
  refine SB.sure_det (js := []) (ts := [9]) (gd := none) (bs := [gOO]) (SB.place_at HVS.out (k := 1) rfl) (by rw [HCS.out]; kernel_rfl) (by rw [HCS.out]; kernel_rfl) ?_ ?_
  ·intro wx hx ρ hρ hs hf; have hρc := hρ.const; have hρf := hρ.func
   obtain ⟨fx9, -⟩ := hf; rw [qs9] at fx9
   clear hs
   clear HCS HVS qs3 qs6 qs9
   refine SB.run_plain ?_
   have hgd : wx.heap[gQ]? = some (.cells #[.int .u64 0, .slice none 0 0, .bool false] 59 (0, 0)) := hx.heap HQ.out (by have := HLT.out; simp; omega)
   have hd0 : wx.cell? ⟨gQ, 0, none⟩ = some (.int .u64 0) := by simp [World.cell?, hgd]
   have hd1 : wx.cell? ⟨gQ, 1, none⟩ = some (.slice none 0 0) := by simp [World.cell?, hgd]
   have hd2 : wx.cell? ⟨gQ, 2, none⟩ = some (.bool false) := by simp [World.cell?, hgd]
   unfold SB.runs
   go_simp
   exact SB.detK.mk
  refine SB.sure_wild (js := [(0, 86)]) (ts := [6]) (gd := none) (bs := []) (cs := [gOO]) (SB.place_at HVS.out (k := 2) rfl) (by rw [HCS.out]; kernel_rfl) (by rw [HCS.out]; kernel_rfl) rfl ?_ ?_
  ·intro wx hx ρ hρ hs hf; have hρc := hρ.const; have hρf := hρ.func; obtain ⟨sn0, -⟩ := hs
   obtain ⟨fx6, -⟩ := hf; rw [qs6] at fx6
   rw [SB.place_at HVS.out (k := 0) rfl] at sn0; replace sn0 : ρ (.tmp 86) = _ := sn0
   clear HCS HVS qs3 qs6 qs9
   refine SB.run_plain ?_
   subst hOO
   have hg : wx.heap[w.heap.size + 1 + 1]? = some (.cells #[.int .u64 0, .slice none 0 0, .slice none 0 0] 49 (0, 0)) := hx.heap HO.out (by simp)
   have f0 : wx.frozen? ⟨w.heap.size + 1 + 1, 0, none⟩ = false := by simp [World.frozen?, hg]
   have f1 : wx.frozen? ⟨w.heap.size + 1 + 1, 1, none⟩ = false := by simp [World.frozen?, hg]
   have f2 : wx.frozen? ⟨w.heap.size + 1 + 1, 2, none⟩ = false := by simp [World.frozen?, hg]
   have c0' : wx.cell? ⟨w.heap.size + 1 + 1, 0, none⟩ = some (.int .u64 0) := by simp [World.cell?, hg]
   have c1' : wx.cell? ⟨w.heap.size + 1 + 1, 1, none⟩ = some (.slice none 0 0) := by simp [World.cell?, hg]
   have c2' : wx.cell? ⟨w.heap.size + 1 + 1, 2, none⟩ = some (.slice none 0 0) := by simp [World.cell?, hg]
   unfold SB.runs
   go_simp
   exact ⟨.ofB ((((ExtB.refl _ _).set _ _).set _ _).set _ _) (by simp), setAll_all (vs := [.int .u64 (RN : Int), .slice X0 n y0, .slice X1 n y1]) hg rfl⟩
  exact trivial
 case hend =>
  intro xs wx hx hg hq
  have gk0 : xs 0 = _ := SB.goods_get hg (i := 0) (j := 0) (d := 86) rfl
  have gk1 : xs 1 = _ := SB.goods_get hg (i := 1) (j := 1) (d := 87) rfl
  obtain ⟨-, gk2⟩ : ∃ v : Value, wx.heap[gOO]? = some (.cells #[.int .u64 (RN : Int), .slice X0 n y0, .slice X1 n y1] 49 (0, 0)) := hq 2 (by decide) (by kernel_rfl)
  clear hg hq
  simp only [putAll, gk0, gk1]
  clear gk0 gk1
  clear xs
  simp only [Act.put, List.setIfInBounds_toArray, List.set_cons_zero, List.set_cons_succ, List.drop_succ_cons, List.drop_zero]
  subst hOO
  have hgO := gk2
  have hxs : SB.ExtS [w.heap.size + 1 + 1] w4.drew wx := hx
  have hbut : But (w.heap.size + 1 + 1) w4 wx := But.exts hxs
  have hgP : wx.heap[w.heap.size + 1 + 1 + 1]? = some (.cells #[.int .u64 0, .slice none 0 0, .bool false] 59 (0, 0)) := hbut _ _ (by omega) HP.out
  have hWx : Ext w wx := extS_base HW.out hxs (by omega)
  replace hdk := hdk.but hbut HO.out rfl
  replace hby := BytesV.but hby hbut HO.out rfl
  have hF : Ext w (((wx.setCell ⟨w.heap.size + 1 + 1 + 1, 0, none⟩ (.int .u64 0)).setCell ⟨w.heap.size + 1 + 1 + 1, 1, none⟩ (.slice none 0 0)).setCell ⟨w.heap.size + 1 + 1 + 1, 2, none⟩ (.bool false)) := setAll_ext (g := w.heap.size + 1 + 1 + 1) (vs := [.int .u64 0, .slice none 0 0, .bool false]) (i := 0) hWx (by omega)
  have hfP : (((wx.setCell ⟨w.heap.size + 1 + 1 + 1, 0, none⟩ (.int .u64 0)).setCell ⟨w.heap.size + 1 + 1 + 1, 1, none⟩ (.slice none 0 0)).setCell ⟨w.heap.size + 1 + 1 + 1, 2, none⟩ (.bool false)).heap[w.heap.size + 1 + 1 + 1]? = some (.cells #[.int .u64 0, .slice none 0 0, .bool false] 59 (0, 0)) := setAll_all (vs := [.int .u64 0, .slice none 0 0, .bool false]) hgP rfl
  have hfO : (((wx.setCell ⟨w.heap.size + 1 + 1 + 1, 0, none⟩ (.int .u64 0)).setCell ⟨w.heap.size + 1 + 1 + 1, 1, none⟩ (.slice none 0 0)).setCell ⟨w.heap.size + 1 + 1 + 1, 2, none⟩ (.bool false)).heap[w.heap.size + 1 + 1]? = some (.cells #[.int .u64 (RN : Int), .slice X0 n y0, .slice X1 n y1] 49 (0, 0)) := (setAll_other (g := w.heap.size + 1 + 1 + 1) (by omega) [.int .u64 0, .slice none 0 0, .bool false] 0 wx).trans hgO
  have hfd := hdk.but (But.all (w.heap.size + 1 + 1 + 1) [.int .u64 0, .slice none 0 0, .bool false] 0 wx) hgP rfl
  have hfb := BytesV.but hby (But.all (w.heap.size + 1 + 1 + 1) [.int .u64 0, .slice none 0 0, .bool false] 0 wx) hgP rfl
  change DkK (((wx.setCell ⟨w.heap.size + 1 + 1 + 1, 0, none⟩ (.int .u64 0)).setCell ⟨w.heap.size + 1 + 1 + 1, 1, none⟩ (.slice none 0 0)).setCell ⟨w.heap.size + 1 + 1 + 1, 2, none⟩ (.bool false)) _ _ _ _ _ at hfd
  change BytesV (((wx.setCell ⟨w.heap.size + 1 + 1 + 1, 0, none⟩ (.int .u64 0)).setCell ⟨w.heap.size + 1 + 1 + 1, 1, none⟩ (.slice none 0 0)).setCell ⟨w.heap.size + 1 + 1 + 1, 2, none⟩ (.bool false)) _ _ _ _ at hfb
  have p0 : wx.cell? ⟨w.heap.size + 1 + 1 + 1, 0, none⟩ = some (.int .u64 0) := by simp [World.cell?, hgP]
  have pf0 : wx.frozen? ⟨w.heap.size + 1 + 1 + 1, 0, none⟩ = false := by simp [World.frozen?, hgP]
  have p1 : wx.cell? ⟨w.heap.size + 1 + 1 + 1, 1, none⟩ = some (.slice none 0 0) := by simp [World.cell?, hgP]
  have pf1 : wx.frozen? ⟨w.heap.size + 1 + 1 + 1, 1, none⟩ = false := by simp [World.frozen?, hgP]
  have p2 : wx.cell? ⟨w.heap.size + 1 + 1 + 1, 2, none⟩ = some (.bool false) := by simp [World.cell?, hgP]
  have pf2 : wx.frozen? ⟨w.heap.size + 1 + 1 + 1, 2, none⟩ = false := by simp [World.frozen?, hgP]
  clear hx hxs hbut hdk hby
  go_wp2
  generalize (((wx.setCell ⟨w.heap.size + 1 + 1 + 1, 0, none⟩ (.int .u64 0)).setCell ⟨w.heap.size + 1 + 1 + 1, 1, none⟩ (.slice none 0 0)).setCell ⟨w.heap.size + 1 + 1 + 1, 2, none⟩ (.bool false)) = wf at *
  clear p0 p1 p2 pf0 pf1 pf2
  have o0 : wf.cell? ⟨w.heap.size + 1 + 1, 0, none⟩ = some (.int .u64 (RN : Int)) := by simp [World.cell?, hfO]
  have o1 : wf.cell? ⟨w.heap.size + 1 + 1, 1, none⟩ = some (.slice X0 n y0) := by simp [World.cell?, hfO]
  have o2 : wf.cell? ⟨w.heap.size + 1 + 1, 2, none⟩ = some (.slice X1 n y1) := by simp [World.cell?, hfO]
  have p0 : wf.cell? ⟨w.heap.size + 1 + 1 + 1, 0, none⟩ = some (.int .u64 0) := by simp [World.cell?, hfP]
  have p1 : wf.cell? ⟨w.heap.size + 1 + 1 + 1, 1, none⟩ = some (.slice none 0 0) := by simp [World.cell?, hfP]
  have p2 : wf.cell? ⟨w.heap.size + 1 + 1 + 1, 2, none⟩ = some (.bool false) := by simp [World.cell?, hfP]
  refine bodyPost_ret (v := .tuple #[.agg #[.int .u64 (RN : Int), .slice X0 n y0, .slice X1 n y1], .agg #[.int .u64 0, .slice none 0 0, .bool false]]) (by simp [results, Try.results119, go_sem, o0, o1, o2, p0, p1, p2]) rfl ⟨_, _, rfl, hfd, ⟨_, _, _, rfl, hfb⟩, hF⟩
set_option maxRecDepth 100000 in
set_option maxHeartbeats 2000000 in
theorem streams_12 (RN n : Nat) (A0 A1 : Option Addr) (c0 c1 : Nat) (K0 K1 : List Key) (me ce a b : Int) (D : Option Addr) (m cd : Nat) (B : Option Addr) (q2 cb : Nat) (dat : List UInt8) (wd : List Int) (w : World) (hd : DkK w (.agg #[.int .u64 (RN : Int), .slice A0 n c0, .slice A1 n c1]) (RN : Int) n K0 K1) (hR : RN < 18446744073709551616) (hpos : 0 < n) (hn : n ≤ 64) (hB : BytesV w D m cd dat)
  (hm0 : ∀ x ∈ K0, x.1.length + m ≤ 65536) (hm1 : ∀ x ∈ K1, x.1.length + m ≤ 65536) :
  Calls Try.prog 119 #[.agg #[.int .u64 (RN : Int), .slice A0 n c0, .slice A1 n c1], .int .i64 me, .agg #[.int .i64 12, .int .i64 ce, .int .u64 a, .int .u64 b, .slice D m cd, .slice B q2 cb]] w (StrPost (strRoot (RN : Int) ⟨12, ce, a, b, dat, wd⟩) n (strK0 (RN : Int) n me ⟨12, ce, a, b, dat, wd⟩ K0) (strK1 (RN : Int) n me ⟨12, ce, a, b, dat, wd⟩ K1) (strR (RN : Int) ⟨12, ce, a, b, dat, wd⟩ K0 K1) w) := by
 have hs0 : ∀ x ∈ K0, x.1.length ≤ 65536 := fun x hx => by have := hm0 x hx; omega
 have hs1 : ∀ x ∈ K1, x.1.length ≤ 65536 := fun x hx => by have := hm1 x hx; omega
 obtain ⟨rr, hrr, hr2⟩ : ∃ rr, RN % 2 = rr ∧ rr < 2 := ⟨_, rfl, Nat.mod_lt _ (by omega)⟩
 have hri : (RN : Int) % 2 = (rr : Int) := by omega
 have hsub : IntKind.i64.wrap (1 - (rr : Int)) = 1 - (rr : Int) := by rw [IntKind.wrap_i64]; omega
 have hdr := fun v1 v2 W => drow_any RN v1 v2 W hR
 rw [hrr] at hdr
 have e0 : strK0 (RN : Int) n me ⟨12, ce, a, b, dat, wd⟩ K0 = K0 := by simp [strK0, hri]
 have e1 : strK1 (RN : Int) n me ⟨12, ce, a, b, dat, wd⟩ K1 = K1 := by simp [strK1, hri]
 have e2 : strRoot (RN : Int) ⟨12, ce, a, b, dat, wd⟩ = (((RN : Int) + 1) % 18446744073709551616) := by simp [strRoot]
 have e3 : strR (RN : Int) ⟨12, ce, a, b, dat, wd⟩ K0 K1 = ResK.zero := by simp [strR, hri]
 rw [e0, e1, e2, e3]
 clear e0 e1 e2 e3 hrr hri
 go_enter Try.func119, Try.ntmps119
 go_upto_region 1 with (fail)
 obtain ⟨hW, hE, hG, hO, hP⟩ := boxes4 w (.cells #[.int .u64 (RN : Int), .slice A0 n c0, .slice A1 n c1] 49) (.cells #[.int .i64 12, .int .i64 ce, .int .u64 a, .int .u64 b, .slice D m cd, .slice B q2 cb] 33) (.cells #[.int .u64 0, .slice none 0 0, .slice none 0 0] 49) (.cells #[.int .u64 0, .slice none 0 0, .bool false] 59)
 generalize (((w.alloc (.cells #[.int .u64 (RN : Int), .slice A0 n c0, .slice A1 n c1] 49)).alloc (.cells #[.int .i64 12, .int .i64 ce, .int .u64 a, .int .u64 b, .slice D m cd, .slice B q2 cb] 33)).alloc (.cells #[.int .u64 0, .slice none 0 0, .slice none 0 0] 49)).alloc (.cells #[.int .u64 0, .slice none 0 0, .bool false] 59) = W at *
 have e0 : W.cell? ⟨w.heap.size, 0, none⟩ = some (.int .u64 (RN : Int)) := by simp [World.cell?, hE]
 have e1 : W.cell? ⟨w.heap.size, 1, none⟩ = some (.slice A0 n c0) := by simp [World.cell?, hE]
 have e2 : W.cell? ⟨w.heap.size, 2, none⟩ = some (.slice A1 n c1) := by simp [World.cell?, hE]
 go_wp2_with fail
 refine (hdr _ _ _).mono ?_
 rintro e w1 ⟨rfl, hx⟩
 replace hE := heap_ext hE hx
 replace hG := heap_ext hG hx
 replace hO := heap_ext hO hx
 replace hP := heap_ext hP hx
 replace hW := hW.trans hx
 clear hx e0 e1 e2 hdr
 go_upto_region 3 with (fail)
 have hx : Ext w1 (w1.alloc (.cells #[.int .u64 0, .slice none 0 0, .bool false] 59)) := (Below.refl _ w1).alloc (Nat.le_refl _) _
 have hQ := heap_alloc_new w1 (.cells #[.int .u64 0, .slice none 0 0, .bool false] 59)
 have hlt : w.heap.size + 1 + 1 + 1 < w1.heap.size := (Array.getElem?_eq_some_iff.1 hP).1
 replace hE := heap_ext hE hx
 replace hG := heap_ext hG hx
 replace hO := heap_ext hO hx
 replace hP := heap_ext hP hx
 replace hW := hW.trans hx
 generalize w1.alloc (.cells #[.int .u64 0, .slice none 0 0, .bool false] 59) = w2 at *
 generalize w1.heap.size = gQ at *
 clear hx
 have e0 : w2.cell? ⟨w.heap.size, 0, none⟩ = some (.int .u64 (RN : Int)) := by simp [World.cell?, hE]
 have ef0 : w2.frozen? ⟨w.heap.size, 0, none⟩ = false := by simp [World.frozen?, hE]
 have e1 : w2.cell? ⟨w.heap.size, 1, none⟩ = some (.slice A0 n c0) := by simp [World.cell?, hE]
 have ef1 : w2.frozen? ⟨w.heap.size, 1, none⟩ = false := by simp [World.frozen?, hE]
 have e2 : w2.cell? ⟨w.heap.size, 2, none⟩ = some (.slice A1 n c1) := by simp [World.cell?, hE]
 have ef2 : w2.frozen? ⟨w.heap.size, 2, none⟩ = false := by simp [World.frozen?, hE]
 have g0 : w2.cell? ⟨w.heap.size + 1, 0, none⟩ = some (.int .i64 12) := by simp [World.cell?, hG]
 have g1 : w2.cell? ⟨w.heap.size + 1, 1, none⟩ = some (.int .i64 ce) := by simp [World.cell?, hG]
 have g2 : w2.cell? ⟨w.heap.size + 1, 2, none⟩ = some (.int .u64 a) := by simp [World.cell?, hG]
 have g3 : w2.cell? ⟨w.heap.size + 1, 3, none⟩ = some (.int .u64 b) := by simp [World.cell?, hG]
 have g4 : w2.cell? ⟨w.heap.size + 1, 4, none⟩ = some (.slice D m cd) := by simp [World.cell?, hG]
 have g5 : w2.cell? ⟨w.heap.size + 1, 5, none⟩ = some (.slice B q2 cb) := by simp [World.cell?, hG]
 have hwr : IntKind.u64.wrap ((RN : Int) + 1) = ((RN : Int) + 1) % 18446744073709551616 := IntKind.wrap_u64 _
 go_wp2_with fail
 try rw [hwr]
 generalize hZZ : ((RN : Int) + 1) % 18446744073709551616 = RZ at *
 refine (dsetroot_any (RN : Int) RZ A0 A1 n c0 n c1 _).mono ?_
 rintro e w3 ⟨rfl, hx⟩
 have hdk : DkK w3 (.agg #[.int .u64 RZ, .slice A0 n c0, .slice A1 n c1]) RZ n K0 K1 := by
  obtain ⟨l0, l1, ⟨B0, B1, b0, b1, eq, h0, h1⟩, k0, k1⟩ := (hd.ext hW).ext hx
  have eq1 := (Value.agg.inj eq)
  simp only [Array.mk.injEq, List.cons.injEq, Value.slice.injEq, and_true, true_and] at eq1
  obtain ⟨⟨rfl, rfl⟩, rfl, rfl⟩ := eq1
  exact ⟨l0, l1, ⟨_, _, _, _, rfl, h0, h1⟩, k0, k1⟩
 replace hE := heap_ext hE hx
 replace hG := heap_ext hG hx
 replace hO := heap_ext hO hx
 replace hP := heap_ext hP hx
 replace hQ := heap_ext hQ hx
 replace hW := hW.trans hx
 clear hx e0 e1 e2 ef0 ef1 ef2 g0 g1 g2 g3 g4 g5
 have e0 : w3.cell? ⟨w.heap.size, 0, none⟩ = some (.int .u64 (RN : Int)) := by simp [World.cell?, hE]
 have ef0 : w3.frozen? ⟨w.heap.size, 0, none⟩ = false := by simp [World.frozen?, hE]
 have e1 : w3.cell? ⟨w.heap.size, 1, none⟩ = some (.slice A0 n c0) := by simp [World.cell?, hE]
 have ef1 : w3.frozen? ⟨w.heap.size, 1, none⟩ = false := by simp [World.frozen?, hE]
 have e2 : w3.cell? ⟨w.heap.size, 2, none⟩ = some (.slice A1 n c1) := by simp [World.cell?, hE]
 have ef2 : w3.frozen? ⟨w.heap.size, 2, none⟩ = false := by simp [World.frozen?, hE]
 go_upto_region 20 with (fail)
 have hE3 : (((w3.setCell ⟨w.heap.size, 0, none⟩ (.int .u64 RZ)).setCell ⟨w.heap.size, 1, none⟩ (.slice A0 n c0)).setCell ⟨w.heap.size, 2, none⟩ (.slice A1 n c1)).heap[w.heap.size]? = some (.cells #[.int .u64 RZ, .slice A0 n c0, .slice A1 n c1] 49 (0, 0)) := setAll_all (vs := [.int .u64 RZ, .slice A0 n c0, .slice A1 n c1]) hE rfl
 have hQ3 : (((w3.setCell ⟨w.heap.size, 0, none⟩ (.int .u64 RZ)).setCell ⟨w.heap.size, 1, none⟩ (.slice A0 n c0)).setCell ⟨w.heap.size, 2, none⟩ (.slice A1 n c1)).heap[gQ]? = some (.cells #[.int .u64 0, .slice none 0 0, .bool false] 59 (0, 0)) := (setAll_other (g := w.heap.size) (by omega) [.int .u64 RZ, .slice A0 n c0, .slice A1 n c1] 0 w3).trans hQ
 have hO3 : (((w3.setCell ⟨w.heap.size, 0, none⟩ (.int .u64 RZ)).setCell ⟨w.heap.size, 1, none⟩ (.slice A0 n c0)).setCell ⟨w.heap.size, 2, none⟩ (.slice A1 n c1)).heap[w.heap.size + 1 + 1]? = some (.cells #[.int .u64 0, .slice none 0 0, .slice none 0 0] 49 (0, 0)) := (setAll_other (g := w.heap.size) (by omega) [.int .u64 RZ, .slice A0 n c0, .slice A1 n c1] 0 w3).trans hO
 have hP3 : (((w3.setCell ⟨w.heap.size, 0, none⟩ (.int .u64 RZ)).setCell ⟨w.heap.size, 1, none⟩ (.slice A0 n c0)).setCell ⟨w.heap.size, 2, none⟩ (.slice A1 n c1)).heap[w.heap.size + 1 + 1 + 1]? = some (.cells #[.int .u64 0, .slice none 0 0, .bool false] 59 (0, 0)) := (setAll_other (g := w.heap.size) (by omega) [.int .u64 RZ, .slice A0 n c0, .slice A1 n c1] 0 w3).trans hP
 have hW3 : Ext w (((w3.setCell ⟨w.heap.size, 0, none⟩ (.int .u64 RZ)).setCell ⟨w.heap.size, 1, none⟩ (.slice A0 n c0)).setCell ⟨w.heap.size, 2, none⟩ (.slice A1 n c1)) := setAll_ext (g := w.heap.size) (vs := [.int .u64 RZ, .slice A0 n c0, .slice A1 n c1]) (i := 0) hW (Nat.le_refl _)
 replace hdk := hdk.but (But.all w.heap.size [.int .u64 RZ, .slice A0 n c0, .slice A1 n c1] 0 w3) hE rfl
 clear e0 e1 e2 ef0 ef1 ef2 hE hG hO hP hQ hW
 change DkK (((w3.setCell ⟨w.heap.size, 0, none⟩ (.int .u64 RZ)).setCell ⟨w.heap.size, 1, none⟩ (.slice A0 n c0)).setCell ⟨w.heap.size, 2, none⟩ (.slice A1 n c1)) _ _ _ _ _ at hdk
 generalize (((w3.setCell ⟨w.heap.size, 0, none⟩ (.int .u64 RZ)).setCell ⟨w.heap.size, 1, none⟩ (.slice A0 n c0)).setCell ⟨w.heap.size, 2, none⟩ (.slice A1 n c1)) = w4 at *
 have hby := bytes_nil w4
 have HE := Lib.hid hE3
 have HO := Lib.hid hO3
 have HP := Lib.hid hP3
 have HQ := Lib.hid hQ3
 have HW := Lib.hid hW3
 have HLT := Lib.hid hlt
 clear hE3 hO3 hP3 hQ3 hW3 hlt
 obtain ⟨gOO, hOO⟩ : ∃ g, g = w.heap.size + 1 + 1 := ⟨_, rfl⟩
 refine' SB.wp_region_sure (gx := [(2, gOO)]) (Pn := fun _ _ => False) ⟨[(some 86, [], none), (some 87, [], none), (none, [0, 0], none), (none, [1, 2, 0, 1, 2], none)], [0, 0, 1, 7], [none, none, some []], [2]⟩ 3 88 [(0, 86), (1, 87)] [(0, 86), (1, 87)] [.det _, .det _, SB.Good.of (fun v w => w.heap[gOO]? = some (.cells #[.int .u64 RZ, .slice A0 n c0, .slice A1 n c1] 49 (0, 0))) (fun v w w' h hx => heap_ext h hx)] (by kernel_rfl) ?hpan (by kernel_rfl) (by kernel_rfl) rfl (by kernel_rfl) (by kernel_rfl) rfl ?hone ?hend
 case hpan =>
  intro _ _ _ _ h; exact h.elim
 case hone =>
  intro CS frS VS hCS ha hV
  have qs3 := slot_val (t := 3) ha rfl
  simp only [List.getElem_toArray, List.getElem_cons_succ, List.getElem_cons_zero] at qs3
  have qs6 := slot_val (t := 6) ha rfl
  simp only [List.getElem_toArray, List.getElem_cons_succ, List.getElem_cons_zero] at qs6
  have qs9 := slot_val (t := 9) ha rfl
  simp only [List.getElem_toArray, List.getElem_cons_succ, List.getElem_cons_zero] at qs9
  have HCS := Lib.hid hCS
  have HVS := Lib.hid hV
  clear ha hCS hV
  refine SB.sure_det (js := []) (ts := [3]) (gd := none) (bs := []) (SB.place_at HVS.out (k := 0) rfl) (by rw [HCS.out]; kernel_rfl) (by rw [HCS.out]; kernel_rfl) ?_ ?_
  ·intro wx hx ρ hρ hs hf; have hρc := hρ.const; have hρf := hρ.func
   obtain ⟨fx3, -⟩ := hf; rw [qs3] at fx3
   clear hs
   clear HCS HVS qs3 qs6 qs9
   refine SB.run_plain ?_
   have hgd : wx.heap[w.heap.size]? = some (.cells #[.int .u64 RZ, .slice A0 n c0, .slice A1 n c1] 49 (0, 0)) := hx.heap HE.out (by simp)
   have hd0 : wx.cell? ⟨w.heap.size, 0, none⟩ = some (.int .u64 RZ) := by simp [World.cell?, hgd]
   have hd1 : wx.cell? ⟨w.heap.size, 1, none⟩ = some (.slice A0 n c0) := by simp [World.cell?, hgd]
   have hd2 : wx.cell? ⟨w.heap.size, 2, none⟩ = some (.slice A1 n c1) := by simp [World.cell?, hgd]
   unfold SB.runs
   go_simp
   exact SB.detK.mk
  refine SB.sure_det (js := []) (ts := [9]) (gd := none) (bs := [gOO]) (SB.place_at HVS.out (k := 1) rfl) (by rw [HCS.out]; kernel_rfl) (by rw [HCS.out]; kernel_rfl) ?_ ?_
  ·intro wx hx ρ hρ hs hf; have hρc := hρ.const; have hρf := hρ.func
   obtain ⟨fx9, -⟩ := hf; rw [qs9] at fx9
   clear hs
   clear HCS HVS qs3 qs6 qs9
   refine SB.run_plain ?_
   have hgd : wx.heap[gQ]? = some (.cells #[.int .u64 0, .slice none 0 0, .bool false] 59 (0, 0)) := hx.heap HQ.out (by have := HLT.out; simp; omega)
   have hd0 : wx.cell? ⟨gQ, 0, none⟩ = some (.int .u64 0) := by simp [World.cell?, hgd]
   have hd1 : wx.cell? ⟨gQ, 1, none⟩ = some (.slice none 0 0) := by simp [World.cell?, hgd]
   have hd2 : wx.cell? ⟨gQ, 2, none⟩ = some (.bool false) := by simp [World.cell?, hgd]
   unfold SB.runs
   go_simp
   exact SB.detK.mk
  refine SB.sure_wild (js := [(0, 86)]) (ts := [6]) (gd := none) (bs := []) (cs := [gOO]) (SB.place_at HVS.out (k := 2) rfl) (by rw [HCS.out]; kernel_rfl) (by rw [HCS.out]; kernel_rfl) rfl ?_ ?_
  ·intro wx hx ρ hρ hs hf; have hρc := hρ.const; have hρf := hρ.func; obtain ⟨sn0, -⟩ := hs
   obtain ⟨fx6, -⟩ := hf; rw [qs6] at fx6
   rw [SB.place_at HVS.out (k := 0) rfl] at sn0; replace sn0 : ρ (.tmp 86) = _ := sn0
   clear HCS HVS qs3 qs6 qs9
   refine SB.run_plain ?_
   subst hOO
   have hg : wx.heap[w.heap.size + 1 + 1]? = some (.cells #[.int .u64 0, .slice none 0 0, .slice none 0 0] 49 (0, 0)) := hx.heap HO.out (by simp)
   have f0 : wx.frozen? ⟨w.heap.size + 1 + 1, 0, none⟩ = false := by simp [World.frozen?, hg]
   have f1 : wx.frozen? ⟨w.heap.size + 1 + 1, 1, none⟩ = false := by simp [World.frozen?, hg]
   have f2 : wx.frozen? ⟨w.heap.size + 1 + 1, 2, none⟩ = false := by simp [World.frozen?, hg]
   have c0' : wx.cell? ⟨w.heap.size + 1 + 1, 0, none⟩ = some (.int .u64 0) := by simp [World.cell?, hg]
   have c1' : wx.cell? ⟨w.heap.size + 1 + 1, 1, none⟩ = some (.slice none 0 0) := by simp [World.cell?, hg]
   have c2' : wx.cell? ⟨w.heap.size + 1 + 1, 2, none⟩ = some (.slice none 0 0) := by simp [World.cell?, hg]
   unfold SB.runs
   go_simp
   exact ⟨.ofB ((((ExtB.refl _ _).set _ _).set _ _).set _ _) (by simp), setAll_all (vs := [.int .u64 RZ, .slice A0 n c0, .slice A1 n c1]) hg rfl⟩
  exact trivial
 case hend =>
  intro xs wx hx hg hq
  have gk0 : xs 0 = _ := SB.goods_get hg (i := 0) (j := 0) (d := 86) rfl
  have gk1 : xs 1 = _ := SB.goods_get hg (i := 1) (j := 1) (d := 87) rfl
  obtain ⟨-, gk2⟩ : ∃ v : Value, wx.heap[gOO]? = some (.cells #[.int .u64 RZ, .slice A0 n c0, .slice A1 n c1] 49 (0, 0)) := hq 2 (by decide) (by kernel_rfl)
  clear hg hq
  simp only [putAll, gk0, gk1]
  clear gk0 gk1
  clear xs
  simp only [Act.put, List.setIfInBounds_toArray, List.set_cons_zero, List.set_cons_succ, List.drop_succ_cons, List.drop_zero]
  subst hOO
  have hgO := gk2
  have hxs : SB.ExtS [w.heap.size + 1 + 1] w4.drew wx := hx
  have hbut : But (w.heap.size + 1 + 1) w4 wx := But.exts hxs
  have hgP : wx.heap[w.heap.size + 1 + 1 + 1]? = some (.cells #[.int .u64 0, .slice none 0 0, .bool false] 59 (0, 0)) := hbut _ _ (by omega) HP.out
  have hWx : Ext w wx := extS_base HW.out hxs (by omega)
  replace hdk := hdk.but hbut HO.out rfl
  replace hby := BytesV.but hby hbut HO.out rfl
  have hF : Ext w (((wx.setCell ⟨w.heap.size + 1 + 1 + 1, 0, none⟩ (.int .u64 0)).setCell ⟨w.heap.size + 1 + 1 + 1, 1, none⟩ (.slice none 0 0)).setCell ⟨w.heap.size + 1 + 1 + 1, 2, none⟩ (.bool false)) := setAll_ext (g := w.heap.size + 1 + 1 + 1) (vs := [.int .u64 0, .slice none 0 0, .bool false]) (i := 0) hWx (by omega)
  have hfP : (((wx.setCell ⟨w.heap.size + 1 + 1 + 1, 0, none⟩ (.int .u64 0)).setCell ⟨w.heap.size + 1 + 1 + 1, 1, none⟩ (.slice none 0 0)).setCell ⟨w.heap.size + 1 + 1 + 1, 2, none⟩ (.bool false)).heap[w.heap.size + 1 + 1 + 1]? = some (.cells #[.int .u64 0, .slice none 0 0, .bool false] 59 (0, 0)) := setAll_all (vs := [.int .u64 0, .slice none 0 0, .bool false]) hgP rfl
  have hfO : (((wx.setCell ⟨w.heap.size + 1 + 1 + 1, 0, none⟩ (.int .u64 0)).setCell ⟨w.heap.size + 1 + 1 + 1, 1, none⟩ (.slice none 0 0)).setCell ⟨w.heap.size + 1 + 1 + 1, 2, none⟩ (.bool false)).heap[w.heap.size + 1 + 1]? = some (.cells #[.int .u64 RZ, .slice A0 n c0, .slice A1 n c1] 49 (0, 0)) := (setAll_other (g := w.heap.size + 1 + 1 + 1) (by omega) [.int .u64 0, .slice none 0 0, .bool false] 0 wx).trans hgO
  have hfd := hdk.but (But.all (w.heap.size + 1 + 1 + 1) [.int .u64 0, .slice none 0 0, .bool false] 0 wx) hgP rfl
  have hfb := BytesV.but hby (But.all (w.heap.size + 1 + 1 + 1) [.int .u64 0, .slice none 0 0, .bool false] 0 wx) hgP rfl
  change DkK (((wx.setCell ⟨w.heap.size + 1 + 1 + 1, 0, none⟩ (.int .u64 0)).setCell ⟨w.heap.size + 1 + 1 + 1, 1, none⟩ (.slice none 0 0)).setCell ⟨w.heap.size + 1 + 1 + 1, 2, none⟩ (.bool false)) _ _ _ _ _ at hfd
  change BytesV (((wx.setCell ⟨w.heap.size + 1 + 1 + 1, 0, none⟩ (.int .u64 0)).setCell ⟨w.heap.size + 1 + 1 + 1, 1, none⟩ (.slice none 0 0)).setCell ⟨w.heap.size + 1 + 1 + 1, 2, none⟩ (.bool false)) _ _ _ _ at hfb
  have p0 : wx.cell? ⟨w.heap.size + 1 + 1 + 1, 0, none⟩ = some (.int .u64 0) := by simp [World.cell?, hgP]
  have pf0 : wx.frozen? ⟨w.heap.size + 1 + 1 + 1, 0, none⟩ = false := by simp [World.frozen?, hgP]
  have p1 : wx.cell? ⟨w.heap.size + 1 + 1 + 1, 1, none⟩ = some (.slice none 0 0) := by simp [World.cell?, hgP]
  have pf1 : wx.frozen? ⟨w.heap.size + 1 + 1 + 1, 1, none⟩ = false := by simp [World.frozen?, hgP]
  have p2 : wx.cell? ⟨w.heap.size + 1 + 1 + 1, 2, none⟩ = some (.bool false) := by simp [World.cell?, hgP]
  have pf2 : wx.frozen? ⟨w.heap.size + 1 + 1 + 1, 2, none⟩ = false := by simp [World.frozen?, hgP]
  clear hx hxs hbut hdk hby
  go_wp2
  generalize (((wx.setCell ⟨w.heap.size + 1 + 1 + 1, 0, none⟩ (.int .u64 0)).setCell ⟨w.heap.size + 1 + 1 + 1, 1, none⟩ (.slice none 0 0)).setCell ⟨w.heap.size + 1 + 1 + 1, 2, none⟩ (.bool false)) = wf at *
  clear p0 p1 p2 pf0 pf1 pf2
  have o0 : wf.cell? ⟨w.heap.size + 1 + 1, 0, none⟩ = some (.int .u64 RZ) := by simp [World.cell?, hfO]
  have o1 : wf.cell? ⟨w.heap.size + 1 + 1, 1, none⟩ = some (.slice A0 n c0) := by simp [World.cell?, hfO]
  have o2 : wf.cell? ⟨w.heap.size + 1 + 1, 2, none⟩ = some (.slice A1 n c1) := by simp [World.cell?, hfO]
  have p0 : wf.cell? ⟨w.heap.size + 1 + 1 + 1, 0, none⟩ = some (.int .u64 0) := by simp [World.cell?, hfP]
  have p1 : wf.cell? ⟨w.heap.size + 1 + 1 + 1, 1, none⟩ = some (.slice none 0 0) := by simp [World.cell?, hfP]
  have p2 : wf.cell? ⟨w.heap.size + 1 + 1 + 1, 2, none⟩ = some (.bool false) := by simp [World.cell?, hfP]
  refine bodyPost_ret (v := .tuple #[.agg #[.int .u64 RZ, .slice A0 n c0, .slice A1 n c1], .agg #[.int .u64 0, .slice none 0 0, .bool false]]) (by simp [results, Try.results119, go_sem, o0, o1, o2, p0, p1, p2]) rfl ⟨_, _, rfl, hfd, ⟨_, _, _, rfl, hfb⟩, hF⟩
end Go.Proofs.Ytjokaginolpbeaa

namespace Go.Proofs.Ytjokaginolpbeaa
open Go.RowKit

/-! access.words. -/
set_option maxRecDepth 100000 in
set_option maxHeartbeats 1000000 in
theorem turn1_any (old : Int) (k ce a b : Int) (D : Option Addr) (m cd : Nat) (B : Option Addr) (q2 cb : Nat) (w : World) :
  Calls Try.prog 156 #[.int .u64 old, .agg #[.int .i64 k, .int .i64 ce, .int .u64 a, .int .u64 b, .slice D m cd, .slice B q2 cb]] w fun e w' => e = .returned (.tuple #[.int .u64 old, .int .u64 old]) ∧ Ext w w' := by
 have hE : Ext w (w.alloc (.cells #[.int .i64 k, .int .i64 ce, .int .u64 a, .int .u64 b, .slice D m cd, .slice B q2 cb] 33)) := (Below.refl _ w).alloc (Nat.le_refl _) _
 have hX : ∀ wx, Ext (w.alloc (.cells #[.int .i64 k, .int .i64 ce, .int .u64 a, .int .u64 b, .slice D m cd, .slice B q2 cb] 33)) wx → wx.cell? ⟨w.heap.size, 2, none⟩ = some (.int .u64 a) ∧ wx.cell? ⟨w.heap.size, 3, none⟩ = some (.int .u64 b) := fun wx hx => ⟨hx.cell (by simp [go_sem]), hx.cell (by simp [go_sem])⟩
 go_enter Try.func156, Try.ntmps156
 go_wp2
 refine bodyPost_ret (v := .tuple #[.int .u64 old, .int .u64 old]) (by simp [results, Try.results156, go_sem]) rfl ⟨rfl, hE⟩
set_option maxRecDepth 100000 in
set_option maxHeartbeats 1000000 in
theorem turn2_any (old : Int) (k ce a b : Int) (D : Option Addr) (m cd : Nat) (B : Option Addr) (q2 cb : Nat) (w : World) :
  Calls Try.prog 157 #[.int .u64 old, .agg #[.int .i64 k, .int .i64 ce, .int .u64 a, .int .u64 b, .slice D m cd, .slice B q2 cb]] w fun e w' => e = .returned (.tuple #[.int .u64 0, .int .u64 a]) ∧ Ext w w' := by
 have hE : Ext w (w.alloc (.cells #[.int .i64 k, .int .i64 ce, .int .u64 a, .int .u64 b, .slice D m cd, .slice B q2 cb] 33)) := (Below.refl _ w).alloc (Nat.le_refl _) _
 have hX : ∀ wx, Ext (w.alloc (.cells #[.int .i64 k, .int .i64 ce, .int .u64 a, .int .u64 b, .slice D m cd, .slice B q2 cb] 33)) wx → wx.cell? ⟨w.heap.size, 2, none⟩ = some (.int .u64 a) ∧ wx.cell? ⟨w.heap.size, 3, none⟩ = some (.int .u64 b) := fun wx hx => ⟨hx.cell (by simp [go_sem]), hx.cell (by simp [go_sem])⟩
 go_enter Try.func157, Try.ntmps157
 go_upto_region 1 with (fail)
 generalize hWW : w.alloc (.cells #[.int .i64 k, .int .i64 ce, .int .u64 a, .int .u64 b, .slice D m cd, .slice B q2 cb] 33) = W at *
 refine' wp_region_sure_all ⟨[(some 6, [], none), (some 7, [0], none), (some 4, [], none), (some 5, [1, 2, 0, 1, 2], none)], [0, 1, 0, 7], [true, true, true, true], [], 0⟩ 4 8 [(0, 6), (1, 7), (2, 4), (3, 5)] [(0, 6), (1, 7), (2, 4), (3, 5)] [.det _, .det _, .det _, .det _] (by kernel_rfl) (by kernel_rfl) (by kernel_rfl) rfl (by kernel_rfl) (by kernel_rfl) rfl (by kernel_rfl) ?hone ?hend
 case hone =>
  intro CS frS VS hCS ha hV
  have qs3 := slot_val (t := 3) ha rfl
  simp only [List.getElem_toArray, List.getElem_cons_succ, List.getElem_cons_zero] at qs3
  have HCS := Lib.hid hCS
  have HVS := Lib.hid hV
  clear ha hCS hV
  refine sure_det (js := []) (ts := [3]) (gd := none) (place_at HVS.out (k := 0) rfl) (by rw [HCS.out]; kernel_rfl) ?_ ?_
  ·intro wx hx ρ hρ hs hf; have hρc := hρ.const; have hρf := hρ.func
   obtain ⟨fx3, -⟩ := hf; rw [qs3] at fx3
   clear hs
   clear HCS HVS qs3
   refine run_plain ?_
   unfold runs
   go_simp
   exact detK.mk
  refine sure_det (js := [(0, 6)]) (ts := []) (gd := none) (place_at HVS.out (k := 1) rfl) (by rw [HCS.out]; kernel_rfl) ?_ ?_
  ·intro wx hx ρ hρ hs hf; have hρc := hρ.const; have hρf := hρ.func; obtain ⟨sn0, -⟩ := hs; rw [place_at HVS.out (k := 0) rfl] at sn0; replace sn0 : ρ (.tmp 6) = _ := sn0
   clear hf
   clear HCS HVS qs3
   refine run_plain ?_
   obtain ⟨c2, c3⟩ := hX wx hx.drawn
   unfold runs
   go_simp
   exact detK.mk
  refine sure_det (js := []) (ts := []) (gd := none) (place_at HVS.out (k := 2) rfl) (by rw [HCS.out]; kernel_rfl) ?_ ?_
  ·intro wx hx ρ hρ hs hf; have hρc := hρ.const; have hρf := hρ.func
   clear hs
   clear hf
   clear HCS HVS qs3
   refine run_plain ?_
   refine op_assign rfl (hρ.const _) ?_
   exact detK.mk
  refine sure_det (js := [(1, 7)]) (ts := []) (gd := none) (place_at HVS.out (k := 3) rfl) (by rw [HCS.out]; kernel_rfl) ?_ ?_
  ·intro wx hx ρ hρ hs hf; have hρc := hρ.const; have hρf := hρ.func; obtain ⟨sn1, -⟩ := hs; rw [place_at HVS.out (k := 1) rfl] at sn1; replace sn1 : ρ (.tmp 7) = _ := sn1
   clear hf
   clear HCS HVS qs3
   refine run_plain ?_
   refine op_assign rfl sn1 ?_
   exact detK.mk
  exact trivial
 case hend =>
  intro xs wx hx hg
  have gk0 : xs 0 = _ := goods_get hg (i := 0) (j := 0) (d := 6) rfl
  have gk1 : xs 1 = _ := goods_get hg (i := 1) (j := 1) (d := 7) rfl
  have gk2 : xs 2 = _ := goods_get hg (i := 2) (j := 2) (d := 4) rfl
  have gk3 : xs 3 = _ := goods_get hg (i := 3) (j := 3) (d := 5) rfl
  clear hg
  simp only [putAll, gk0, gk1, gk2, gk3]
  clear gk0 gk1 gk2 gk3
  clear xs
  simp only [Act.put, List.setIfInBounds_toArray, List.set_cons_zero, List.set_cons_succ]
  replace hE := hE.trans hx.drawn
  go_wp2
  refine bodyPost_ret (v := .tuple #[.int .u64 0, .int .u64 a]) (by simp [results, Try.results157, go_sem]) rfl ⟨rfl, hE⟩
set_option maxRecDepth 100000 in
set_option maxHeartbeats 1000000 in
theorem turn3_any (old : Int) (k ce a b : Int) (D : Option Addr) (m cd : Nat) (B : Option Addr) (q2 cb : Nat) (w : World) :
  Calls Try.prog 158 #[.int .u64 old, .agg #[.int .i64 k, .int .i64 ce, .int .u64 a, .int .u64 b, .slice D m cd, .slice B q2 cb]] w fun e w' => e = .returned (.tuple #[.int .u64 (if old = a then 1 else 0), .int .u64 (if old = a then b else old)]) ∧ Ext w w' := by
 have hE : Ext w (w.alloc (.cells #[.int .i64 k, .int .i64 ce, .int .u64 a, .int .u64 b, .slice D m cd, .slice B q2 cb] 33)) := (Below.refl _ w).alloc (Nat.le_refl _) _
 by_cases h : old = a
 ·rw [if_pos h, if_pos h]
  have hX : ∀ wx, Ext (w.alloc (.cells #[.int .i64 k, .int .i64 ce, .int .u64 a, .int .u64 b, .slice D m cd, .slice B q2 cb] 33)) wx → wx.cell? ⟨w.heap.size, 2, none⟩ = some (.int .u64 a) ∧ wx.cell? ⟨w.heap.size, 3, none⟩ = some (.int .u64 b) := fun wx hx => ⟨hx.cell (by simp [go_sem]), hx.cell (by simp [go_sem])⟩
  go_enter Try.func158, Try.ntmps158
  go_upto_region 2 with (fail)
  generalize hWW : w.alloc (.cells #[.int .i64 k, .int .i64 ce, .int .u64 a, .int .u64 b, .slice D m cd, .slice B q2 cb] 33) = W at *
  refine' wp_region_sure_all ⟨[(some 10, [], none), (some 11, [0], none), (some 4, [], none), (some 5, [1, 2, 0, 1, 2], none)], [0, 1, 0, 7], [true, true, true, true], [], 0⟩ 4 13 [(0, 10), (1, 11), (2, 4), (3, 5)] [(0, 10), (1, 11), (2, 4), (3, 5)] [.det _, .det _, .det _, .det _] (by kernel_rfl) (by kernel_rfl) (by kernel_rfl) rfl (by kernel_rfl) (by kernel_rfl) rfl (by kernel_rfl) ?hone ?hend
  case hone =>
   intro CS frS VS hCS ha hV
   have qs3 := slot_val (t := 3) ha rfl
   simp only [List.getElem_toArray, List.getElem_cons_succ, List.getElem_cons_zero] at qs3
   have HCS := Lib.hid hCS
   have HVS := Lib.hid hV
   clear ha hCS hV
   refine sure_det (js := []) (ts := [3]) (gd := none) (place_at HVS.out (k := 0) rfl) (by rw [HCS.out]; kernel_rfl) ?_ ?_
   ·intro wx hx ρ hρ hs hf; have hρc := hρ.const; have hρf := hρ.func
    obtain ⟨fx3, -⟩ := hf; rw [qs3] at fx3
    clear hs
    clear HCS HVS qs3
    refine run_plain ?_
    unfold runs
    go_simp
    exact detK.mk
   refine sure_det (js := [(0, 10)]) (ts := []) (gd := none) (place_at HVS.out (k := 1) rfl) (by rw [HCS.out]; kernel_rfl) ?_ ?_
   ·intro wx hx ρ hρ hs hf; have hρc := hρ.const; have hρf := hρ.func; obtain ⟨sn0, -⟩ := hs; rw [place_at HVS.out (k := 0) rfl] at sn0; replace sn0 : ρ (.tmp 10) = _ := sn0
    clear hf
    clear HCS HVS qs3
    refine run_plain ?_
    obtain ⟨c2, c3⟩ := hX wx hx.drawn
    unfold runs
    go_simp
    exact detK.mk
   refine sure_det (js := []) (ts := []) (gd := none) (place_at HVS.out (k := 2) rfl) (by rw [HCS.out]; kernel_rfl) ?_ ?_
   ·intro wx hx ρ hρ hs hf; have hρc := hρ.const; have hρf := hρ.func
    clear hs
    clear hf
    clear HCS HVS qs3
    refine run_plain ?_
    refine op_assign rfl (hρ.const _) ?_
    exact detK.mk
   refine sure_det (js := [(1, 11)]) (ts := []) (gd := none) (place_at HVS.out (k := 3) rfl) (by rw [HCS.out]; kernel_rfl) ?_ ?_
   ·intro wx hx ρ hρ hs hf; have hρc := hρ.const; have hρf := hρ.func; obtain ⟨sn1, -⟩ := hs; rw [place_at HVS.out (k := 1) rfl] at sn1; replace sn1 : ρ (.tmp 11) = _ := sn1
    clear hf
    clear HCS HVS qs3
    refine run_plain ?_
    refine op_assign rfl sn1 ?_
    exact detK.mk
   exact trivial
  case hend =>
   intro xs wx hx hg
   have gk0 : xs 0 = _ := goods_get hg (i := 0) (j := 0) (d := 10) rfl
   have gk1 : xs 1 = _ := goods_get hg (i := 1) (j := 1) (d := 11) rfl
   have gk2 : xs 2 = _ := goods_get hg (i := 2) (j := 2) (d := 4) rfl
   have gk3 : xs 3 = _ := goods_get hg (i := 3) (j := 3) (d := 5) rfl
   clear hg
   simp only [putAll, gk0, gk1, gk2, gk3]
   clear gk0 gk1 gk2 gk3
   clear xs
   simp only [Act.put, List.setIfInBounds_toArray, List.set_cons_zero, List.set_cons_succ]
   replace hE := hE.trans hx.drawn
   go_wp2
   refine bodyPost_ret (v := .tuple #[.int .u64 1, .int .u64 b]) (by simp [results, Try.results158, go_sem]) rfl ⟨rfl, hE⟩
 ·rw [if_neg h, if_neg h]
  have hX : ∀ wx, Ext (w.alloc (.cells #[.int .i64 k, .int .i64 ce, .int .u64 a, .int .u64 b, .slice D m cd, .slice B q2 cb] 33)) wx → wx.cell? ⟨w.heap.size, 2, none⟩ = some (.int .u64 a) ∧ wx.cell? ⟨w.heap.size, 3, none⟩ = some (.int .u64 b) := fun wx hx => ⟨hx.cell (by simp [go_sem]), hx.cell (by simp [go_sem])⟩
  go_enter Try.func158, Try.ntmps158
  go_wp2
  refine bodyPost_ret (v := .tuple #[.int .u64 0, .int .u64 old]) (by simp [results, Try.results158, go_sem]) rfl ⟨rfl, hE⟩
set_option maxRecDepth 100000 in
set_option maxHeartbeats 1000000 in
theorem turn4_any (old : Int) (k ce a b : Int) (D : Option Addr) (m cd : Nat) (B : Option Addr) (q2 cb : Nat) (w : World) :
  Calls Try.prog 159 #[.int .u64 old, .agg #[.int .i64 k, .int .i64 ce, .int .u64 a, .int .u64 b, .slice D m cd, .slice B q2 cb]] w fun e w' => e = .returned (.tuple #[.int .u64 old, .int .u64 ((old + a) % 18446744073709551616)]) ∧ Ext w w' := by
 have hE : Ext w (w.alloc (.cells #[.int .i64 k, .int .i64 ce, .int .u64 a, .int .u64 b, .slice D m cd, .slice B q2 cb] 33)) := (Below.refl _ w).alloc (Nat.le_refl _) _
 have hX : ∀ wx, Ext (w.alloc (.cells #[.int .i64 k, .int .i64 ce, .int .u64 a, .int .u64 b, .slice D m cd, .slice B q2 cb] 33)) wx → wx.cell? ⟨w.heap.size, 2, none⟩ = some (.int .u64 a) ∧ wx.cell? ⟨w.heap.size, 3, none⟩ = some (.int .u64 b) := fun wx hx => ⟨hx.cell (by simp [go_sem]), hx.cell (by simp [go_sem])⟩
 go_enter Try.func159, Try.ntmps159
 go_upto_region 1 with (fail)
 generalize hWW : w.alloc (.cells #[.int .i64 k, .int .i64 ce, .int .u64 a, .int .u64 b, .slice D m cd, .slice B q2 cb] 33) = W at *
 refine' wp_region_sure_all ⟨((some 6, [], none) :: (some 7, [], none) :: (some 8, [], none) :: (some 9, [2], none) :: (some 10, [1, 3], none) :: (some 4, [0, 0], none) :: (some 5, [4, 5, 0, 1, 2, 3, 4, 5], none) :: []), (0 :: 0 :: 0 :: 4 :: 14 :: 1 :: 63 :: []), (true :: true :: true :: true :: true :: true :: true :: []), [], 0⟩ 7 11 ((0, 6) :: (1, 7) :: (2, 8) :: (3, 9) :: (4, 10) :: (5, 4) :: (6, 5) :: []) ((0, 6) :: (1, 7) :: (2, 8) :: (3, 9) :: (4, 10) :: (5, 4) :: (6, 5) :: []) (.det _ :: .det _ :: .det _ :: .det _ :: .det _ :: .det _ :: .det _ :: []) (by kernel_rfl) (by kernel_rfl) (by kernel_rfl) rfl (by kernel_rfl) (by kernel_rfl) rfl (by kernel_rfl) ?hone ?hend
 case hone =>
  intro CS frS VS hCS ha hV
  have qs0 := slot_val (t := 0) ha rfl
  simp only [List.getElem_toArray, List.getElem_cons_succ, List.getElem_cons_zero] at qs0
  have qs3 := slot_val (t := 3) ha rfl
  simp only [List.getElem_toArray, List.getElem_cons_succ, List.getElem_cons_zero] at qs3
  have HCS := Lib.hid hCS
  have HVS := Lib.hid hV
  clear ha hCS hV
  refine sure_det (js := []) (ts := [0]) (gd := none) (place_at HVS.out (k := 0) rfl) (by rw [HCS.out]; kernel_rfl) ?_ ?_
  ·intro wx hx ρ hρ hs hf; have hρc := hρ.const; have hρf := hρ.func
   obtain ⟨fx0, -⟩ := hf; rw [qs0] at fx0
   clear hs
   clear HCS HVS qs0 qs3
   refine run_plain ?_
   refine op_move rfl fx0 ?_
   exact detK.mk
  refine sure_det (js := []) (ts := [0]) (gd := none) (place_at HVS.out (k := 1) rfl) (by rw [HCS.out]; kernel_rfl) ?_ ?_
  ·intro wx hx ρ hρ hs hf; have hρc := hρ.const; have hρf := hρ.func
   obtain ⟨fx0, -⟩ := hf; rw [qs0] at fx0
   clear hs
   clear HCS HVS qs0 qs3
   refine run_plain ?_
   refine op_move rfl fx0 ?_
   exact detK.mk
  refine sure_det (js := []) (ts := [3]) (gd := none) (place_at HVS.out (k := 2) rfl) (by rw [HCS.out]; kernel_rfl) ?_ ?_
  ·intro wx hx ρ hρ hs hf; have hρc := hρ.const; have hρf := hρ.func
   obtain ⟨fx3, -⟩ := hf; rw [qs3] at fx3
   clear hs
   clear HCS HVS qs0 qs3
   refine run_plain ?_
   unfold runs
   go_simp
   exact detK.mk
  refine sure_det (js := [(2, 8)]) (ts := []) (gd := none) (place_at HVS.out (k := 3) rfl) (by rw [HCS.out]; kernel_rfl) ?_ ?_
  ·intro wx hx ρ hρ hs hf; have hρc := hρ.const; have hρf := hρ.func; obtain ⟨sn2, -⟩ := hs; rw [place_at HVS.out (k := 2) rfl] at sn2; replace sn2 : ρ (.tmp 8) = _ := sn2
   clear hf
   clear HCS HVS qs0 qs3
   refine run_plain ?_
   obtain ⟨c2, c3⟩ := hX wx hx.drawn
   unfold runs
   go_simp
   exact detK.mk
  refine sure_det (js := [(1, 7), (3, 9)]) (ts := []) (gd := none) (place_at HVS.out (k := 4) rfl) (by rw [HCS.out]; kernel_rfl) ?_ ?_
  ·intro wx hx ρ hρ hs hf; have hρc := hρ.const; have hρf := hρ.func; obtain ⟨sn1, sn3, -⟩ := hs; rw [place_at HVS.out (k := 1) rfl] at sn1; replace sn1 : ρ (.tmp 7) = _ := sn1; rw [place_at HVS.out (k := 3) rfl] at sn3; replace sn3 : ρ (.tmp 9) = _ := sn3
   clear hf
   clear HCS HVS qs0 qs3
   refine run_plain ?_
   unfold runs
   go_simp
   exact detK.mk
  refine sure_det (js := [(0, 6)]) (ts := []) (gd := none) (place_at HVS.out (k := 5) rfl) (by rw [HCS.out]; kernel_rfl) ?_ ?_
  ·intro wx hx ρ hρ hs hf; have hρc := hρ.const; have hρf := hρ.func; obtain ⟨sn0, -⟩ := hs; rw [place_at HVS.out (k := 0) rfl] at sn0; replace sn0 : ρ (.tmp 6) = _ := sn0
   clear hf
   clear HCS HVS qs0 qs3
   refine run_plain ?_
   refine op_assign rfl sn0 ?_
   exact detK.mk
  refine sure_det (js := [(4, 10)]) (ts := []) (gd := none) (place_at HVS.out (k := 6) rfl) (by rw [HCS.out]; kernel_rfl) ?_ ?_
  ·intro wx hx ρ hρ hs hf; have hρc := hρ.const; have hρf := hρ.func; obtain ⟨sn4, -⟩ := hs; rw [place_at HVS.out (k := 4) rfl] at sn4; replace sn4 : ρ (.tmp 10) = _ := sn4
   clear hf
   clear HCS HVS qs0 qs3
   refine run_plain ?_
   refine op_assign rfl sn4 ?_
   exact detK.mk
  exact trivial
 case hend =>
  intro xs wx hx hg
  have gk0 : xs 0 = _ := goods_get hg (i := 0) (j := 0) (d := 6) rfl
  have gk1 : xs 1 = _ := goods_get hg (i := 1) (j := 1) (d := 7) rfl
  have gk2 : xs 2 = _ := goods_get hg (i := 2) (j := 2) (d := 8) rfl
  have gk3 : xs 3 = _ := goods_get hg (i := 3) (j := 3) (d := 9) rfl
  have gk4 : xs 4 = _ := goods_get hg (i := 4) (j := 4) (d := 10) rfl
  have gk5 : xs 5 = _ := goods_get hg (i := 5) (j := 5) (d := 4) rfl
  have gk6 : xs 6 = _ := goods_get hg (i := 6) (j := 6) (d := 5) rfl
  clear hg
  simp only [putAll, gk0, gk1, gk2, gk3, gk4, gk5, gk6]
  clear gk0 gk1 gk2 gk3 gk4 gk5 gk6
  clear xs
  simp only [Act.put, List.setIfInBounds_toArray, List.set_cons_zero, List.set_cons_succ]
  replace hE := hE.trans hx.drawn
  go_wp2
  refine bodyPost_ret (v := .tuple #[.int .u64 old, .int .u64 ((old + a) % 18446744073709551616)]) (by simp [results, Try.results159, go_sem]; exact IntKind.wrap_u64 _) rfl ⟨rfl, hE⟩
set_option maxRecDepth 100000 in
set_option maxHeartbeats 1000000 in
theorem turn5_any (old : Int) (k ce a b : Int) (D : Option Addr) (m cd : Nat) (B : Option Addr) (q2 cb : Nat) (w : World) :
  Calls Try.prog 160 #[.int .u64 old, .agg #[.int .i64 k, .int .i64 ce, .int .u64 a, .int .u64 b, .slice D m cd, .slice B q2 cb]] w fun e w' => e = .returned (.tuple #[.int .u64 old, .int .u64 a]) ∧ Ext w w' := by
 have hE : Ext w (w.alloc (.cells #[.int .i64 k, .int .i64 ce, .int .u64 a, .int .u64 b, .slice D m cd, .slice B q2 cb] 33)) := (Below.refl _ w).alloc (Nat.le_refl _) _
 have hX : ∀ wx, Ext (w.alloc (.cells #[.int .i64 k, .int .i64 ce, .int .u64 a, .int .u64 b, .slice D m cd, .slice B q2 cb] 33)) wx → wx.cell? ⟨w.heap.size, 2, none⟩ = some (.int .u64 a) ∧ wx.cell? ⟨w.heap.size, 3, none⟩ = some (.int .u64 b) := fun wx hx => ⟨hx.cell (by simp [go_sem]), hx.cell (by simp [go_sem])⟩
 go_enter Try.func160, Try.ntmps160
 go_upto_region 1 with (fail)
 generalize hWW : w.alloc (.cells #[.int .i64 k, .int .i64 ce, .int .u64 a, .int .u64 b, .slice D m cd, .slice B q2 cb] 33) = W at *
 refine' wp_region_sure_all ⟨[(some 6, [], none), (some 7, [], none), (some 8, [1], none), (some 4, [0, 0], none), (some 5, [2, 3, 0, 1, 2, 3], none)], [0, 0, 2, 1, 15], [true, true, true, true, true], [], 0⟩ 5 9 [(0, 6), (1, 7), (2, 8), (3, 4), (4, 5)] [(0, 6), (1, 7), (2, 8), (3, 4), (4, 5)] [.det _, .det _, .det _, .det _, .det _] (by kernel_rfl) (by kernel_rfl) (by kernel_rfl) rfl (by kernel_rfl) (by kernel_rfl) rfl (by kernel_rfl) ?hone ?hend
 case hone =>
  intro CS frS VS hCS ha hV
  have qs0 := slot_val (t := 0) ha rfl
  simp only [List.getElem_toArray, List.getElem_cons_succ, List.getElem_cons_zero] at qs0
  have qs3 := slot_val (t := 3) ha rfl
  simp only [List.getElem_toArray, List.getElem_cons_succ, List.getElem_cons_zero] at qs3
  have HCS := Lib.hid hCS
  have HVS := Lib.hid hV
  clear ha hCS hV
  refine sure_det (js := []) (ts := [0]) (gd := none) (place_at HVS.out (k := 0) rfl) (by rw [HCS.out]; kernel_rfl) ?_ ?_
  ·intro wx hx ρ hρ hs hf; have hρc := hρ.const; have hρf := hρ.func
   obtain ⟨fx0, -⟩ := hf; rw [qs0] at fx0
   clear hs
   clear HCS HVS qs0 qs3
   refine run_plain ?_
   refine op_move rfl fx0 ?_
   exact detK.mk
  refine sure_det (js := []) (ts := [3]) (gd := none) (place_at HVS.out (k := 1) rfl) (by rw [HCS.out]; kernel_rfl) ?_ ?_
  ·intro wx hx ρ hρ hs hf; have hρc := hρ.const; have hρf := hρ.func
   obtain ⟨fx3, -⟩ := hf; rw [qs3] at fx3
   clear hs
   clear HCS HVS qs0 qs3
   refine run_plain ?_
   unfold runs
   go_simp
   exact detK.mk
  refine sure_det (js := [(1, 7)]) (ts := []) (gd := none) (place_at HVS.out (k := 2) rfl) (by rw [HCS.out]; kernel_rfl) ?_ ?_
  ·intro wx hx ρ hρ hs hf; have hρc := hρ.const; have hρf := hρ.func; obtain ⟨sn1, -⟩ := hs; rw [place_at HVS.out (k := 1) rfl] at sn1; replace sn1 : ρ (.tmp 7) = _ := sn1
   clear hf
   clear HCS HVS qs0 qs3
   refine run_plain ?_
   obtain ⟨c2, c3⟩ := hX wx hx.drawn
   unfold runs
   go_simp
   exact detK.mk
  refine sure_det (js := [(0, 6)]) (ts := []) (gd := none) (place_at HVS.out (k := 3) rfl) (by rw [HCS.out]; kernel_rfl) ?_ ?_
  ·intro wx hx ρ hρ hs hf; have hρc := hρ.const; have hρf := hρ.func; obtain ⟨sn0, -⟩ := hs; rw [place_at HVS.out (k := 0) rfl] at sn0; replace sn0 : ρ (.tmp 6) = _ := sn0
   clear hf
   clear HCS HVS qs0 qs3
   refine run_plain ?_
   refine op_assign rfl sn0 ?_
   exact detK.mk
  refine sure_det (js := [(2, 8)]) (ts := []) (gd := none) (place_at HVS.out (k := 4) rfl) (by rw [HCS.out]; kernel_rfl) ?_ ?_
  ·intro wx hx ρ hρ hs hf; have hρc := hρ.const; have hρf := hρ.func; obtain ⟨sn2, -⟩ := hs; rw [place_at HVS.out (k := 2) rfl] at sn2; replace sn2 : ρ (.tmp 8) = _ := sn2
   clear hf
   clear HCS HVS qs0 qs3
   refine run_plain ?_
   refine op_assign rfl sn2 ?_
   exact detK.mk
  exact trivial
 case hend =>
  intro xs wx hx hg
  have gk0 : xs 0 = _ := goods_get hg (i := 0) (j := 0) (d := 6) rfl
  have gk1 : xs 1 = _ := goods_get hg (i := 1) (j := 1) (d := 7) rfl
  have gk2 : xs 2 = _ := goods_get hg (i := 2) (j := 2) (d := 8) rfl
  have gk3 : xs 3 = _ := goods_get hg (i := 3) (j := 3) (d := 4) rfl
  have gk4 : xs 4 = _ := goods_get hg (i := 4) (j := 4) (d := 5) rfl
  clear hg
  simp only [putAll, gk0, gk1, gk2, gk3, gk4]
  clear gk0 gk1 gk2 gk3 gk4
  clear xs
  simp only [Act.put, List.setIfInBounds_toArray, List.set_cons_zero, List.set_cons_succ]
  replace hE := hE.trans hx.drawn
  go_wp2
  refine bodyPost_ret (v := .tuple #[.int .u64 old, .int .u64 a]) (by simp [results, Try.results160, go_sem]) rfl ⟨rfl, hE⟩
def turnTab : Array Value := #[.int .i64 0, .func (.func 156) #[] #[], .int .i64 1, .func (.func 157) #[] #[], .int .i64 2, .func (.func 158) #[] #[], .int .i64 3, .func (.func 159) #[] #[], .int .i64 4, .func (.func 160) #[] #[]]
set_option maxRecDepth 100000 in
set_option maxHeartbeats 1000000 in
theorem turns_any (w : World) : Calls Try.prog 151 #[] w fun e w' => e = .returned (.slice (some ⟨w.heap.size, 0, none⟩) 5 5) ∧ w'.heap[w.heap.size]? = some (.cells turnTab 181 (0, 0)) ∧ Ext w w' := by
 have hb : ∀ (W : World) (i : Int) (f : FuncId), (Instr.build 181 #[(0, .int .i64 i), (1, .func (.func f) #[] #[])]).run Try.prog W = .ok (.agg #[.int .i64 i, .func (.func f) #[] #[]]) W := fun _ _ _ => by kernel_rfl
 have hbs : ∀ (W : World) (x0 x1 x2 x3 x4 y0 y1 y2 y3 y4 : Value), (Instr.buildSlice 177 5 #[(0, .agg #[x0, y0]), (1, .agg #[x1, y1]), (2, .agg #[x2, y2]), (3, .agg #[x3, y3]), (4, .agg #[x4, y4])]).run Try.prog W = .ok (.slice (some ⟨W.heap.size, 0, none⟩) 5 5) (W.alloc (.cells #[x0, y0, x1, y1, x2, y2, x3, y3, x4, y4] 181)) := fun _ _ _ _ _ _ _ _ _ _ _ => by kernel_rfl
 have hX : Ext w (w.alloc (.cells turnTab 181)) := (Below.refl _ w).alloc (Nat.le_refl _) _
 have hN := heap_alloc_new w (.cells turnTab 181)
 unfold turnTab at *
 go_enter Try.func151, Try.ntmps151
 go_wp2
 go_ret
 exact ⟨rfl, hN, hX⟩
def fT (j : Nat) : FuncId := if j = 0 then 156 else if j = 1 then 157 else if j = 2 then 158 else if j = 3 then 159 else 160
theorem five_cases {j : Nat} (h : j < 5) : j = 0 ∨ j = 1 ∨ j = 2 ∨ j = 3 ∨ j = 4 := by omega
theorem tab_at {w : World} {g j : Nat} {T : TypeId} (h : w.heap[g]? = some (.cells turnTab T (0, 0))) (hj : j < 5) : w.cell? ⟨g, j * 2, none⟩ = some (.int .i64 (j : Int)) ∧ w.cell? ⟨g, j * 2 + 1, none⟩ = some (.func (.func (fT j)) #[] #[]) := by
 unfold turnTab at h
 rcases five_cases hj with rfl | rfl | rfl | rfl | rfl <;> (constructor <;> simp [World.cell?, h, fT])
theorem call_all {j : Nat} (hj : j < 5) : ∀ (args : Array Value) (w : World), (callFunc (fT j) args).run Try.prog w = .ok (.enter (fT j) args) w := by
 rcases five_cases hj with rfl | rfl | rfl | rfl | rfl
 ·exact Try.call156
 ·exact Try.call157
 ·exact Try.call158
 ·exact Try.call159
 ·exact Try.call160
theorem turn_all {j : Nat} (hj : j < 5) (old : Int) (k ce a b : Int) (D : Option Addr) (m cd : Nat) (B : Option Addr) (q2 cb : Nat) (w : World) :
  Calls Try.prog (fT j) #[.int .u64 old, .agg #[.int .i64 k, .int .i64 ce, .int .u64 a, .int .u64 b, .slice D m cd, .slice B q2 cb]] w fun e w' => e = .returned (.tuple #[.int .u64 (turnN (j : Int) old a), .int .u64 (turnX (j : Int) old a b)]) ∧ Ext w w' := by
 rcases five_cases hj with rfl | rfl | rfl | rfl | rfl
 ·exact turn1_any old k ce a b D m cd B q2 cb w
 ·exact turn2_any old k ce a b D m cd B q2 cb w
 ·exact turn3_any old k ce a b D m cd B q2 cb w
 ·exact turn4_any old k ce a b D m cd B q2 cb w
 ·exact turn5_any old k ce a b D m cd B q2 cb w
theorem turnX_rng {kind old a b : Int} (h0 : 0 ≤ old ∧ old < 18446744073709551616) (h1 : 0 ≤ a ∧ a < 18446744073709551616) (h2 : 0 ≤ b ∧ b < 18446744073709551616) : 0 ≤ turnX kind old a b ∧ turnX kind old a b < 18446744073709551616 := by
 unfold turnX
 repeat' split
 all_goals omega
end Go.Proofs.Ytjokaginolpbeaa
