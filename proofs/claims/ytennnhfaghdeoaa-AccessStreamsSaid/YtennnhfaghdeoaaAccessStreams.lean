/- Proved: the law AccessStreams (a thread's own stream is its own: what others append, and sync, turns it not; what it appended, synced, outlasts a crash; what it only appended may not) returns true at every input and turns none of its arguments. No condition. -/
import Derived.Test.YtennnhfaghdeoaaStepsLib
import Derived.Test.YtennnhfaghdeoaaAccShown
import Derived.Test.YtennnhfaghdeoaaDiskAllC
import Derived.Test.YtennnhfaghdeoaaSureL
namespace Go.Proofs.Ytennnhfaghdeoaa
open Go.ChangeShapes Go.WideShapes Go.ChangeAt Go.RowKit
/-! What AccessStreams goes on from: a world of two threads, told by what each has appended, and how much of it is synced. -/
def aX (o : Nat → List UInt8) (s : Nat → Nat) : WldK := ⟨2, 0, [0, 0, 0, 0, 0, 0, 0, 0, 0, 0], 0, 2, [(o 0, (s 0 : Int)), (o 1, (s 1 : Int))], [([], 0), ([], 0)]⟩
def updF {α : Type} (f : Nat → α) (k : Nat) (v : α) : Nat → α := fun i => if i = k then v else f i
theorem updF_at {α : Type} (f : Nat → α) (k : Nat) (v : α) : updF f k v k = v := if_pos rfl
theorem updF_ne {α : Type} (f : Nat → α) {k i : Nat} (v : α) (h : i ≠ k) : updF f k v i = f i := if_neg h
theorem aX0 : newW 2 0 = aX (fun _ => []) (fun _ => 0) := by rfl
theorem aFit {o : Nat → List UInt8} {s : Nat → Nat} {m : Nat} (h0 : (o 0).length + m ≤ 65536) (h1 : (o 1).length + m ≤ 65536) (hm : m ≤ 65536) : Fit (aX o s) m := by
 refine ⟨by simp [aX], by simp [aX], by simp [aX], by simp [aX], fun k hk => ?_, fun k hk => ?_⟩
 ·simp [aX] at hk
  rcases hk with rfl | rfl
  ·exact h0
  ·exact h1
 ·simp [aX] at hk
  subst hk
  simpa using hm
theorem aApp {o : Nat → List UInt8} {s : Nat → Nat} {k : Nat} (hk : k < 2) (d : List UInt8) : doK (aX o s) (k : Int) ⟨5, 0, 0, 0, d, []⟩ false = aX (updF o k (o k ++ d)) s := by
 have h2 : k = 0 ∨ k = 1 := by omega
 rcases h2 with rfl | rfl <;> simp [aX, doK, diskKind, strRoot, strK0, strK1, act0, act1, turnK, appK, updF]
theorem aAppR {o : Nat → List UInt8} {s : Nat → Nat} (d : List UInt8) : doR (aX o s) ⟨5, 0, 0, 0, d, []⟩ false = ⟨0, [], false⟩ := by
 simp [doR, diskKind, strR, ResK.zero]
theorem aSyn {o : Nat → List UInt8} {s : Nat → Nat} {k : Nat} (hk : k < 2) : doK (aX o s) (k : Int) ⟨6, 0, 0, 0, [], []⟩ false = aX o (updF s k (o k).length) := by
 have h2 : k = 0 ∨ k = 1 := by omega
 rcases h2 with rfl | rfl <;> simp [aX, doK, diskKind, strRoot, strK0, strK1, act0, act1, turnK, synK, updF]
theorem aSynR {o : Nat → List UInt8} {s : Nat → Nat} : doR (aX o s) ⟨6, 0, 0, 0, [], []⟩ false = ⟨0, [], false⟩ := by
 simp [doR, diskKind, strR, ResK.zero]
theorem aRead {o : Nat → List UInt8} {s : Nat → Nat} {k : Nat} (hk : k < 2) : doR (aX o s) ⟨8, (k : Int), 0, 0, [], []⟩ false = ⟨0, o k, false⟩ := by
 have h2 : k = 0 ∨ k = 1 := by omega
 rcases h2 with rfl | rfl <;> simp [aX, doR, diskKind, strR, readK] <;> rfl
theorem aCut {o : Nat → List UInt8} {s : Nat → Nat} (h : ∀ k, s k ≤ (o k).length) : cutK [] [(o 0, (s 0 : Int)), (o 1, (s 1 : Int))] = [((o 0).take (s 0), (s 0 : Int)), ((o 1).take (s 1), (s 1 : Int))] := by
 have hc : ∀ k, cutKey (o k, (s k : Int)) 0 = ((o k).take (s k), (s k : Int)) := fun k => by
  have h1 : cutN (o k).length (s k : Int) 0 = s k := by have := h k; unfold cutN; omega
  simp [cutKey, h1]
 simp [cutK, hc]
theorem aCut1 : cutK ([].drop 2) [([], 0), ([], 0)] = [([], 0), ([], 0)] := by
 have h1 : cutN 0 0 0 = 0 := rfl
 simp [cutK, cutKey, h1]
/-- two texts in a row -/
def strV (l : List UInt8) : Value := .string ⟨l.toArray⟩
def TwoS (w : World) (g : Nat) (o : Nat → List UInt8) : Prop := w.heap[g]? = some (.cells #[strV (o 0), strV (o 1)] 9 (0, 0))
theorem TwoS.at {w : World} {g : Nat} {o : Nat → List UInt8} (h : TwoS w g o) {k : Nat} (hk : k < 2) : w.cell? ⟨g, k, none⟩ = some (strV (o k)) ∧ w.frozen? ⟨g, k, none⟩ = false := by
 have h2 : k = 0 ∨ k = 1 := by omega
 unfold TwoS at h
 rcases h2 with rfl | rfl <;> simp [World.cell?, World.frozen?, h]
theorem TwoS.set {w : World} {g : Nat} {o : Nat → List UInt8} (h : TwoS w g o) {k : Nat} (hk : k < 2) (l : List UInt8) : TwoS (w.setCell ⟨g, k, none⟩ (strV l)) g (updF o k l) := by
 have h2 : k = 0 ∨ k = 1 := by omega
 unfold TwoS at *
 rcases h2 with rfl | rfl
 ·exact heap_setCell_at h
 ·exact heap_setCell_at h
theorem TwoS.other {w : World} {g : Nat} {o : Nat → List UInt8} (h : TwoS w g o) {p : Addr} (hp : p.block ≠ g) (u : Value) : TwoS (w.setCell p u) g o := by
 unfold TwoS at *
 rw [Below.heap_setCell _ _ _ _ (fun e => hp e.symm)]; exact h
theorem TwoS.ext {w w' : World} {g : Nat} {o : Nat → List UInt8} (h : TwoS w g o) (hx : Ext w w') : TwoS w' g o := heap_ext h hx
theorem TwoS.wld {w : World} {g : Nat} {o : Nat → List UInt8} (h : TwoS w g o) {v : Value} {X : WldK} (hV : WldV w v X) (hl : 2 ≤ X.ws.length) (k : Nat) (u : Value) : WldV (w.setCell ⟨g, k, none⟩ u) v X :=
 hV.but hl (But.setCell w g k u) h rfl
theorem a_cat (d a : List UInt8) : ((⟨d.toArray⟩ : ByteArray) ++ ⟨a.toArray⟩) = ⟨(d ++ a).toArray⟩ := by
 ext1
 simp
theorem aBytes {w : World} {A : Option Addr} {n c : Nat} {l : List UInt8} (h : BytesV w A n c l) {i : Nat} (hi : i < n) : ∃ a z, A = some a ∧ w.cell? (a.add i) = some (.int .u8 (z : Nat)) ∧ z < 256 := by
 have hl : i < l.length := by rw [h.len]; exact hi
 obtain ⟨a, ha, hc⟩ := h.cells (fun e => by simp [bytesOf] at e; subst e; simp at hl)
 refine ⟨a, l[i].toNat, ha, hc i _ ?_, l[i].toNat_lt⟩
 simp [bytesOf, hl]
/-- a row of texts that came in -/
structure TextsV (w : World) (A : Option Addr) (n c : Nat) (ls : List (List UInt8)) : Prop where
 len : ls.length = n
 le : n ≤ maxLen
 at_ : ∀ i l, ls[i]? = some l → ∃ a A' m c', A = some a ∧ w.cell? (a.add i) = some (.slice A' m c') ∧ BytesV w A' m c' l
section
variable {H : Type} {enc : TypeId × Value → H} {w : World} {base : Nat}
set_option maxRecDepth 100000 in
theorem open_texts_arg {b0 : Nat} {v : Value} {d : DataW H} {p : List MemPlace} (hv : Value.okWide Try.prog w .any b0 85 v) (h : DataW.Trod enc Try.prog w base (fun _ => true) true 85 v d p) :
  ∃ A n c ls, v = .slice A n c ∧ TextsV w A n c ls := by
 obtain ⟨A0, n0, c0, rfl⟩ := okWide_slice Try.underlying85 hv
 obtain ⟨fuel, hf⟩ := h
 obtain ⟨A, n, c, m, e, hn, hc, hA, hi⟩ := open_slice Try.underlying85 hf
 simp [Value.cells] at e
 obtain ⟨rfl, rfl, rfl⟩ := e
 rw [cellsBytes] at hi
 obtain ⟨ls, hl, hp⟩ := list_choose (n := n0) (p := fun i l => ∃ a A' m c', A0 = some a ∧ w.cell? (a.add i) = some (.slice A' m c') ∧ BytesV w A' m c' l) (fun i hlt => by
  obtain ⟨a, l, y, ha, hlen, hcell, ht⟩ := hi i hlt
  obtain ⟨A', m', c', l', e, hV⟩ := open_bytes ht
  subst e
  exact ⟨l', a, A', m', c', ha, by simpa using hcell 0 _ rfl, hV⟩)
 exact ⟨A0, n0, c0, ls, rfl, hl, Nat.le_trans hn hc, hp⟩
end

set_option maxRecDepth 100000 in
set_option maxHeartbeats 20000000 in
theorem ast_walk (L : Option Addr) (n lc : Nat) (ls : List (List UInt8)) (F : Option Addr) (fn fc : Nat) (bs : List Bool) (M : Option Addr) (mn mc : Nat) (ms : List UInt8) (w : World) (hL : TextsV w L n lc ls) (hS : BoolsV w F fn fc bs) (hfn : fn ≤ maxLen) (hM : BytesV w M mn mc ms) :
  Calls Try.prog 10 #[.slice L n lc, .slice F fn fc, .slice M mn mc] w fun e w' => e = .returned (.bool true) ∧ Ext w w' := by
 have hmc := Nat.le_trans hM.le hM.cap
 have hncap := hL.le
 have hlen := hL.len
 have hbl := hS.len
 simp only [maxLen] at hmc hncap hfn
 have hb5 : ∀ (W : World) (A : Option Addr) (x y : Nat), (Instr.build 42 #[(0, .int .i64 5), (4, .slice A x y)]).run Try.prog W = .ok (.agg #[.int .i64 5, .int .i64 0, .int .u64 0, .int .u64 0, .slice A x y, .slice none 0 0]) W := fun _ _ _ _ => by kernel_rfl
 have hb6 : ∀ (W : World), (Instr.build 42 #[(0, .int .i64 6)]).run Try.prog W = .ok (.agg #[.int .i64 6, .int .i64 0, .int .u64 0, .int .u64 0, .slice none 0 0, .slice none 0 0]) W := fun _ => by kernel_rfl
 have hb8 : ∀ (W : World) (x : Int), (Instr.build 42 #[(0, .int .i64 8), (1, .int .i64 x)]).run Try.prog W = .ok (.agg #[.int .i64 8, .int .i64 x, .int .u64 0, .int .u64 0, .slice none 0 0, .slice none 0 0]) W := fun _ _ => by kernel_rfl
 have hbw : ∀ (W : World) (a b c d e f : Value), (Instr.build 32 #[(0, .agg #[a, b, c]), (1, .agg #[d, e, f])]).run Try.prog W = .ok (.agg #[a, b, c, d, e, f]) W := fun _ _ _ _ _ _ _ => by kernel_rfl
 have hbs : ∀ (W : World) (a b : ByteArray), (Instr.buildSlice 86 2 #[(0, .string a), (1, .string b)]).run Try.prog W = .ok (.slice (some ⟨W.heap.size, 0, none⟩) 2 2) (W.alloc (.cells #[.string a, .string b] 9)) := fun _ _ _ => by kernel_rfl
 go_enter Try.func10, Try.ntmps10
 go_wp2_with fail
 refine (shown10_any _).mono ?_
 rintro e W1 ⟨rfl, hW⟩
 rcases (Decidable.em (n ≤ 20)).symm with h6 | h6
 ·have h6' : (20 : Int) < (n : Int) := by omega
  go_wp2
  go_ret
  exact ⟨rfl, hW⟩
 have h6' : ¬ (20 : Int) < (n : Int) := by omega
 rcases (Decidable.em (n ≤ fn)).symm with h7 | h7
 ·have h7' : (fn : Int) < (n : Int) := by omega
  go_wp2
  go_ret
  exact ⟨rfl, hW⟩
 have h7' : ¬ (fn : Int) < (n : Int) := by omega
 rcases (Decidable.em (n ≤ mn)).symm with h8 | h8
 ·have h8' : (mn : Int) < (n : Int) := by omega
  go_wp2
  go_ret
  exact ⟨rfl, hW⟩
 have h8' : ¬ (mn : Int) < (n : Int) := by omega
 go_wp2_with fail
 refine (ranew_yes 2 0 (by omega) (by omega) (by omega) _).mono ?_
 rintro e u0 ⟨v0, rfl, hV, hx0⟩
 rw [aX0] at hV
 obtain ⟨xA, xq, xc, xB, xb, xC, xd, rfl⟩ := hV.form6
 replace hW := hW.trans hx0
 have hgw0 := hW.size
 clear hx0
 go_upto_region 5 with (fail)
 have hx1 : Ext u0 (u0.alloc (.cells #[.int .i64 (aX (fun _ => []) (fun _ => 0)).T, .int .i64 (aX (fun _ => []) (fun _ => 0)).C, .slice xA xq xc, .int .u64 (aX (fun _ => []) (fun _ => 0)).R, .slice xB (aX (fun _ => []) (fun _ => 0)).n xb, .slice xC (aX (fun _ => []) (fun _ => 0)).n xd] 32)) := (Below.refl _ u0).alloc (Nat.le_refl _) _
 have hb := heap_alloc_new u0 (.cells #[.int .i64 (aX (fun _ => []) (fun _ => 0)).T, .int .i64 (aX (fun _ => []) (fun _ => 0)).C, .slice xA xq xc, .int .u64 (aX (fun _ => []) (fun _ => 0)).R, .slice xB (aX (fun _ => []) (fun _ => 0)).n xb, .slice xC (aX (fun _ => []) (fun _ => 0)).n xd] 32)
 generalize u0.alloc (.cells #[.int .i64 (aX (fun _ => []) (fun _ => 0)).T, .int .i64 (aX (fun _ => []) (fun _ => 0)).C, .slice xA xq xc, .int .u64 (aX (fun _ => []) (fun _ => 0)).R, .slice xB (aX (fun _ => []) (fun _ => 0)).n xb, .slice xC (aX (fun _ => []) (fun _ => 0)).n xd] 32) = U0 at *
 generalize u0.heap.size = gw at *
 replace hW := hW.trans hx1
 replace hV := hV.ext hx1
 have hbw0 : BoxW U0 gw (aX (fun _ => []) (fun _ => 0)) := ⟨_, hb, hV⟩
 have hgwU : gw < U0.heap.size := (Array.getElem?_eq_some_iff.1 hb).1
 clear hx1 hb hV
 go_upto_region 6 with (fail)
 have hx1 : Ext U0 (U0.alloc (.cells #[.string ⟨#[]⟩, .string ⟨#[]⟩] 9)) := (Below.refl _ U0).alloc (Nat.le_refl _) _
 have hO : TwoS (U0.alloc (.cells #[.string ⟨#[]⟩, .string ⟨#[]⟩] 9)) U0.heap.size (fun _ => []) := heap_alloc_new U0 (.cells #[.string ⟨#[]⟩, .string ⟨#[]⟩] 9)
 generalize U0.alloc (.cells #[.string ⟨#[]⟩, .string ⟨#[]⟩] 9) = U1 at *
 generalize U0.heap.size = gO at *
 have hgOU : gO < U1.heap.size := (Array.getElem?_eq_some_iff.1 hO).1
 replace hW := hW.trans hx1
 replace hbw0 := hbw0.ext hx1
 clear hx1
 go_upto_region 7 with (fail)
 have hx1 : Ext U1 (U1.alloc (.cells #[.string ⟨#[]⟩, .string ⟨#[]⟩] 9)) := (Below.refl _ U1).alloc (Nat.le_refl _) _
 have hT : TwoS (U1.alloc (.cells #[.string ⟨#[]⟩, .string ⟨#[]⟩] 9)) U1.heap.size (fun _ => []) := heap_alloc_new U1 (.cells #[.string ⟨#[]⟩, .string ⟨#[]⟩] 9)
 generalize U1.alloc (.cells #[.string ⟨#[]⟩, .string ⟨#[]⟩] 9) = U2 at *
 generalize U1.heap.size = gS at *
 have hgSU : gS < U2.heap.size := (Array.getElem?_eq_some_iff.1 hT).1
 replace hW := hW.trans hx1
 replace hbw0 := hbw0.ext hx1
 replace hO := hO.ext hx1
 clear hx1
 have nwO : ¬ gw = gO := by omega
 have nwS : ¬ gw = gS := by omega
 have nOS : ¬ gO = gS := by omega
 have nOw : ¬ gO = gw := by omega
 have nSw : ¬ gS = gw := by omega
 have nSO : ¬ gS = gO := by omega
 go_wp2
 go_loopw [11] (fun iv wr => ∃ (j : Nat) (o : Nat → List UInt8) (s : Nat → Nat), iv = .int .i64 (j : Int) ∧ j ≤ n ∧ (∀ k, s k ≤ (o k).length ∧ (o k).length ≤ 50 * j) ∧ Ext w wr ∧ gS < wr.heap.size ∧ TwoS wr gO o ∧ TwoS wr gS (fun k => (o k).take (s k)) ∧ BoxW wr gw (aX o s)) (fun iv _ => n - (intOf iv).toNat)
 case atStart => exact ⟨0, fun _ => [], fun _ => 0, rfl, Nat.zero_le _, fun k => ⟨Nat.le_refl _, by simp⟩, hW, hgSU, hO, by simpa using hT, hbw0⟩
 case round =>
  obtain ⟨j, o, s, rfl, hj, hos, hWr, hgr, hO, hT, hbx⟩ := hrel
  clear hW
  rcases Nat.lt_or_ge j n with hjn | hjn
  ·obtain ⟨l, hl⟩ : ∃ l, ls[j]? = some l := ⟨_, List.getElem?_eq_getElem (by omega)⟩
   obtain ⟨a, A', m', c', rfl, hca, hBl⟩ := hL.at_ j l hl
   obtain ⟨bm, z, rfl, hcb, hz⟩ := aBytes hM (i := j) (by omega)
   obtain ⟨bt, hbt⟩ : ∃ bt, bs[j]? = some bt := ⟨_, List.getElem?_eq_getElem (by omega)⟩
   obtain ⟨sF, rfl, hcs⟩ := hS.at_ j bt hbt
   have hjI : (j : Int) < (n : Int) := by omega
   have hjm : (j : Int) < (mn : Int) := by omega
   have hjf : (j : Int) < (fn : Int) := by omega
   have y0 := hWr.cell hca
   have y1 := hWr.cell hcb
   have y2 := hWr.cell hcs
   rcases (Decidable.em (m' ≤ 50)).symm with h5 | h5
   ·have h5' : (50 : Int) < (m' : Int) := by omega
    go_wp2
    go_ret
    exact ⟨rfl, hWr⟩
   have h5' : ¬ (50 : Int) < (m' : Int) := by omega
   have hll : l.length = m' := hBl.len
   have hzw : IntKind.i64.wrap (z : Int) = (z : Int) := by rw [IntKind.wrap_i64]; omega
   have hzm : Int.tmod (z : Int) 2 = ((z % 2 : Nat) : Int) := by rw [Int.tmod_eq_emod_of_nonneg (by omega)]; omega
   have hz2 : z % 2 < 2 := Nat.mod_lt _ (by omega)
   have hzk : IntKind.i64.wrap ((z % 2 : Nat) : Int) = ((z % 2 : Nat) : Int) := by rw [IntKind.wrap_i64]; omega
   generalize z % 2 = kk at *
   have hkI : (kk : Int) < 2 := by omega
   go_upto_region 13 with (fail)
   clear hzw hzm hzk y1
   have hok := hos kk
   have hX1 := aApp (o := o) (s := s) hz2 l
   have hR1 := aAppR (o := o) (s := s) l
   have hF1 : Fit (aX o s) m' := aFit (by have := (hos 0).2; omega) (by have := (hos 1).2; omega) (by omega)
   have hl3 : 2 ≤ (aX (updF o kk (o kk ++ l)) s).ws.length := by simp [aX]
   generalize hXa : aX o s = X at *
   generalize hXb : aX (updF o kk (o kk ++ l)) s = X1 at *
   have HX1 := Lib.hid hX1
   have HR1 := Lib.hid hR1
   have HXB := Lib.hid hXb
   clear hX1 hR1 hXa hXb
   obtain ⟨bA, bq, bc, bB, bb, bC, bd, hbx0, hbxV⟩ := hbx.form
   have hBw := hBl.ext hWr
   have hX : ∀ wx, Ext wr wx → wx.cell? ⟨gw, 0, none⟩ = some (.int .i64 X.T) ∧ wx.cell? ⟨gw, 1, none⟩ = some (.int .i64 X.C) ∧ wx.cell? ⟨gw, 2, none⟩ = some (.slice bA bq bc) ∧ wx.cell? ⟨gw, 3, none⟩ = some (.int .u64 X.R) ∧ wx.cell? ⟨gw, 4, none⟩ = some (.slice bB X.n bb) ∧ wx.cell? ⟨gw, 5, none⟩ = some (.slice bC X.n bd) ∧ wx.cell? (a.add j) = some (.slice A' m' c') := fun wx hx =>
    ⟨hx.cell (by simp [World.cell?, hbx0]), hx.cell (by simp [World.cell?, hbx0]), hx.cell (by simp [World.cell?, hbx0]), hx.cell (by simp [World.cell?, hbx0]), hx.cell (by simp [World.cell?, hbx0]), hx.cell (by simp [World.cell?, hbx0]), hx.cell y0⟩
   have HBX := Lib.hid hbx0
   have HWR := Lib.hid hWr
   have HO := Lib.hid hO
   have HT := Lib.hid hT
   have HGR := Lib.hid hgr
   clear hbx0 hbx hWr hO hT hgr y0
   refine' wp_region_late 10 [(8, 63)] ⟨((some 64, [], none) :: (some 65, [], none) :: (some 66, [], none) :: (some 67, [], none) :: (some 68, [2, 3], none) :: (some 69, [4], none) :: (some 70, [5], none) :: (some 71, [0, 1, 6], none) :: (some 63, [7], none) :: (some 72, [8], none) :: (some 73, [8], none) :: (some 13, [], none) :: (some 14, [], none) :: (none, [11, 9, 7, 0, 1, 2, 3, 4, 5, 6, 7, 8, 9, 11, 12], none) :: (none, [12, 10, 13, 0, 1, 2, 3, 4, 5, 6, 7, 8, 9, 10, 11, 12, 13], none) :: []), (0 :: 0 :: 0 :: 0 :: 12 :: 28 :: 60 :: 127 :: 255 :: 511 :: 511 :: 0 :: 0 :: 7167 :: 16383 :: []), (true :: true :: true :: true :: true :: true :: true :: false :: false :: false :: false :: true :: true :: []), [], 0⟩ 13 153 ((0, 64) :: (1, 65) :: (2, 66) :: (3, 67) :: (4, 68) :: (5, 69) :: (6, 70) :: (7, 71) :: (8, 63) :: (9, 72) :: (10, 73) :: (11, 13) :: (12, 14) :: []) ((0, 64) :: (1, 65) :: (2, 66) :: (3, 67) :: (4, 68) :: (5, 69) :: (6, 70) :: (7, 71) :: (8, 63) :: (9, 72) :: (10, 73) :: (11, 13) :: (12, 14) :: []) (.det _ :: .det _ :: .det _ :: .det _ :: .det _ :: .det _ :: .det _ :: Good.of (fun v w => ∃ v1 r1, v = .tuple #[v1, r1] ∧ WldV w v1 X1 ∧ ResV w r1 ⟨0, [], false⟩) (fun v w w' h hx => let ⟨v1, r1, e, h1, h2⟩ := h; ⟨v1, r1, e, h1.ext hx, h2.ext hx⟩) :: Good.of (fun v w => ∃ v1 r1, v = .tuple #[v1, r1] ∧ WldV w v1 X1 ∧ ResV w r1 ⟨0, [], false⟩) (fun v w w' h hx => let ⟨v1, r1, e, h1, h2⟩ := h; ⟨v1, r1, e, h1.ext hx, h2.ext hx⟩) :: Good.of (fun v w => WldV w v X1) (fun v w w' h hx => h.ext hx) :: Good.of (fun v w => ResV w v ⟨0, [], false⟩) (fun v w w' h hx => h.ext hx) :: Good.box 32 #[.int .i64 0, .int .i64 0, .slice none 0 0, .int .u64 0, .slice none 0 0, .slice none 0 0] wr.heap.size :: Good.box 51 #[.int .u64 0, .slice none 0 0, .bool false] wr.heap.size :: []) (by kernel_rfl) (by kernel_rfl) (by kernel_rfl) rfl (by kernel_rfl) (by kernel_rfl) rfl (by kernel_rfl) (by kernel_rfl) (by kernel_rfl) rfl (fun _ _ _ _ _ h => h) ?hlate ?hone ?hend
   case hlate =>
    intro V hV wx hx ρ hρ hs o ho; obtain ⟨sn8, -⟩ := hs; rw [place_at hV (k := 8) rfl] at sn8; rw [place_at hV (k := 10) rfl]
    obtain rfl := Option.some.inj ho
    obtain ⟨v1, r1, e, h1, h2⟩ := sn8
    refine ⟨r1, fun w'' => ?_, h2⟩
    go_simp
   case hone =>
    intro CS frS VS hCS ha hV
    have qs0 := slot_val (t := 0) ha rfl
    simp only [List.getElem_toArray, List.getElem_cons_succ, List.getElem_cons_zero] at qs0
    have qs8 := slot_val (t := 8) ha rfl
    simp only [List.getElem_toArray, List.getElem_cons_succ, List.getElem_cons_zero] at qs8
    have qs11 := slot_val (t := 11) ha rfl
    simp only [List.getElem_toArray, List.getElem_cons_succ, List.getElem_cons_zero] at qs11
    have qs12 := slot_val (t := 12) ha rfl
    simp only [List.getElem_toArray, List.getElem_cons_succ, List.getElem_cons_zero] at qs12
    have HCS := Lib.hid hCS
    have HVS := Lib.hid hV
    clear ha hCS hV
    refine sure_det (js := []) (ts := [8]) (gd := none) (place_at HVS.out (k := 0) rfl) (by rw [HCS.out]; kernel_rfl) ?_ ?_
    ·intro wx hx ρ hρ hs hf; have hρc := hρ.const; have hρf := hρ.func
     obtain ⟨fx8, -⟩ := hf; rw [qs8] at fx8
     clear hs
     clear HCS HVS qs0 qs8 qs11 qs12
     refine run_plain ?_
     obtain ⟨p0, p1, p2, p3, p4, p5, q0⟩ := hX wx hx.drawn
     unfold runs
     go_simp
     exact detK.mk
    refine sure_det (js := []) (ts := [12]) (gd := none) (place_at HVS.out (k := 1) rfl) (by rw [HCS.out]; kernel_rfl) ?_ ?_
    ·intro wx hx ρ hρ hs hf; have hρc := hρ.const; have hρf := hρ.func
     obtain ⟨fx12, -⟩ := hf; rw [qs12] at fx12
     clear hs
     clear HCS HVS qs0 qs8 qs11 qs12
     refine run_plain ?_
     refine op_move rfl fx12 ?_
     exact detK.mk
    refine sure_det (js := []) (ts := [0]) (gd := none) (place_at HVS.out (k := 2) rfl) (by rw [HCS.out]; kernel_rfl) ?_ ?_
    ·intro wx hx ρ hρ hs hf; have hρc := hρ.const; have hρf := hρ.func
     obtain ⟨fx0, -⟩ := hf; rw [qs0] at fx0
     clear hs
     clear HCS HVS qs0 qs8 qs11 qs12
     refine run_plain ?_
     refine op_move rfl fx0 ?_
     exact detK.mk
    refine sure_det (js := []) (ts := [11]) (gd := none) (place_at HVS.out (k := 3) rfl) (by rw [HCS.out]; kernel_rfl) ?_ ?_
    ·intro wx hx ρ hρ hs hf; have hρc := hρ.const; have hρf := hρ.func
     obtain ⟨fx11, -⟩ := hf; rw [qs11] at fx11
     clear hs
     clear HCS HVS qs0 qs8 qs11 qs12
     refine run_plain ?_
     refine op_move rfl fx11 ?_
     exact detK.mk
    refine sure_det (js := [(2, 66), (3, 67)]) (ts := []) (gd := none) (place_at HVS.out (k := 4) rfl) (by rw [HCS.out]; kernel_rfl) ?_ ?_
    ·intro wx hx ρ hρ hs hf; have hρc := hρ.const; have hρf := hρ.func; obtain ⟨sn2, sn3, -⟩ := hs; rw [place_at HVS.out (k := 2) rfl] at sn2; replace sn2 : ρ (.tmp 66) = _ := sn2; rw [place_at HVS.out (k := 3) rfl] at sn3; replace sn3 : ρ (.tmp 67) = _ := sn3
     clear hf
     clear HCS HVS qs0 qs8 qs11 qs12
     refine run_plain ?_
     unfold runs
     go_simp
     exact detK.mk
    refine sure_det (js := [(4, 68)]) (ts := []) (gd := none) (place_at HVS.out (k := 5) rfl) (by rw [HCS.out]; kernel_rfl) ?_ ?_
    ·intro wx hx ρ hρ hs hf; have hρc := hρ.const; have hρf := hρ.func; obtain ⟨sn4, -⟩ := hs; rw [place_at HVS.out (k := 4) rfl] at sn4; replace sn4 : ρ (.tmp 68) = _ := sn4
     clear hf
     clear HCS HVS qs0 qs8 qs11 qs12
     refine run_plain ?_
     obtain ⟨p0, p1, p2, p3, p4, p5, q0⟩ := hX wx hx.drawn
     unfold runs
     go_simp
     exact detK.mk
    refine sure_det (js := [(5, 69)]) (ts := []) (gd := none) (place_at HVS.out (k := 6) rfl) (by rw [HCS.out]; kernel_rfl) ?_ ?_
    ·intro wx hx ρ hρ hs hf; have hρc := hρ.const; have hρf := hρ.func; obtain ⟨sn5, -⟩ := hs; rw [place_at HVS.out (k := 5) rfl] at sn5; replace sn5 : ρ (.tmp 69) = _ := sn5
     clear hf
     clear HCS HVS qs0 qs8 qs11 qs12
     refine run_plain ?_
     unfold runs
     go_simp
     exact detK.mk
    refine sure_op (js := [(0, 64), (1, 65), (6, 70)]) (ts := []) (gd := none) (place_at HVS.out (k := 7) rfl) (by rw [HCS.out]; kernel_rfl) ?_ ?_
    ·intro wx hx ρ hρ hs hf; have hρc := hρ.const; have hρf := hρ.func; obtain ⟨sn0, sn1, sn6, -⟩ := hs; rw [place_at HVS.out (k := 0) rfl] at sn0; replace sn0 : ρ (.tmp 64) = _ := sn0; rw [place_at HVS.out (k := 1) rfl] at sn1; replace sn1 : ρ (.tmp 65) = _ := sn1; rw [place_at HVS.out (k := 6) rfl] at sn6; replace sn6 : ρ (.tmp 70) = _ := sn6
     clear hf
     clear HCS HVS qs0 qs8 qs11 qs12
     refine run_plain ?_
     refine op_call rfl hρ Try.call20 (map_four sn0 sn1 sn6 (hρ.const _)) ?_
     refine Calls.mono (do_all _ _ X (kk : Int) ⟨5, 0, 0, 0, l, []⟩ false _ (hbxV.ext hx.drawn) ⟨A', m', c', none, 0, 0, rfl, hBw.ext hx.drawn, words_nil _, by simp, by simp⟩ (hF1.le_ (by simp [useM, diskKind, hll]))) ?_
     rintro e w' ⟨v1, r1, rfl, h1, h2, hx5⟩
     rw [HX1.out] at h1
     rw [HR1.out] at h2
     exact ⟨_, rfl, hx5, v1, r1, rfl, h1, h2⟩
    refine sure_op (js := [(7, 71)]) (ts := []) (gd := none) (place_at HVS.out (k := 8) rfl) (by rw [HCS.out]; kernel_rfl) ?_ ?_
    ·intro wx hx ρ hρ hs hf; have hρc := hρ.const; have hρf := hρ.func; obtain ⟨sn7, -⟩ := hs; rw [place_at HVS.out (k := 7) rfl] at sn7; replace sn7 : ∃ v1 r1, (ρ (.tmp 71)) = .tuple #[v1, r1] ∧ WldV wx v1 X1 ∧ ResV wx r1 ⟨0, [], false⟩ := sn7
     clear hf
     clear HCS HVS qs0 qs8 qs11 qs12
     refine run_plain ?_
     refine op_move rfl rfl ?_
     exact ⟨Ext.refl _, sn7⟩
    refine sure_op (js := [(8, 63)]) (ts := []) (gd := none) (place_at HVS.out (k := 9) rfl) (by rw [HCS.out]; kernel_rfl) ?_ ?_
    ·intro wx hx ρ hρ hs hf; have hρc := hρ.const; have hρf := hρ.func; obtain ⟨sn8, -⟩ := hs; rw [place_at HVS.out (k := 8) rfl] at sn8; replace sn8 : ∃ v1 r1, (ρ (.tmp 63)) = .tuple #[v1, r1] ∧ WldV wx v1 X1 ∧ ResV wx r1 ⟨0, [], false⟩ := sn8
     clear hf
     clear HCS HVS qs0 qs8 qs11 qs12
     refine run_plain ?_
     obtain ⟨v1, r1, e, h1, h2⟩ := sn8
     unfold runs
     go_simp
     exact ⟨Ext.refl _, h1⟩
    refine sure_op (js := [(8, 63)]) (ts := []) (gd := none) (place_at HVS.out (k := 10) rfl) (by rw [HCS.out]; kernel_rfl) ?_ ?_
    ·intro wx hx ρ hρ hs hf; have hρc := hρ.const; have hρf := hρ.func; obtain ⟨sn8, -⟩ := hs; rw [place_at HVS.out (k := 8) rfl] at sn8; replace sn8 : ∃ v1 r1, (ρ (.tmp 63)) = .tuple #[v1, r1] ∧ WldV wx v1 X1 ∧ ResV wx r1 ⟨0, [], false⟩ := sn8
     clear hf
     clear HCS HVS qs0 qs8 qs11 qs12
     refine run_plain ?_
     obtain ⟨v1, r1, e, h1, h2⟩ := sn8
     unfold runs
     go_simp
     exact ⟨Ext.refl _, h2⟩
    refine sure_op (js := []) (ts := []) (gd := none) (place_at HVS.out (k := 11) rfl) (by rw [HCS.out]; kernel_rfl) ?_ ?_
    ·intro wx hx ρ hρ hs hf; have hρc := hρ.const; have hρf := hρ.func
     clear hs
     clear hf
     clear HCS HVS qs0 qs8 qs11 qs12
     refine run_plain ?_
     refine op_alloc rfl (Try.zeroValue32 _) ?_
     exact ⟨Ext.refl _ |>.alloc (Nat.le_refl _) _, wx.heap.size, rfl, hx.size, heap_alloc_new wx _⟩
    refine sure_op (js := []) (ts := []) (gd := none) (place_at HVS.out (k := 12) rfl) (by rw [HCS.out]; kernel_rfl) ?_ ?_
    ·intro wx hx ρ hρ hs hf; have hρc := hρ.const; have hρf := hρ.func
     clear hs
     clear hf
     clear HCS HVS qs0 qs8 qs11 qs12
     refine run_plain ?_
     refine op_alloc rfl (Try.zeroValue51 _) ?_
     exact ⟨Ext.refl _ |>.alloc (Nat.le_refl _) _, wx.heap.size, rfl, hx.size, heap_alloc_new wx _⟩
    exact trivial
   case hend =>
    intro xs wx hx hg
    have gk0 : xs 0 = _ := goods_get hg (i := 0) (j := 0) (d := 64) rfl
    have gk1 : xs 1 = _ := goods_get hg (i := 1) (j := 1) (d := 65) rfl
    have gk2 : xs 2 = _ := goods_get hg (i := 2) (j := 2) (d := 66) rfl
    have gk3 : xs 3 = _ := goods_get hg (i := 3) (j := 3) (d := 67) rfl
    have gk4 : xs 4 = _ := goods_get hg (i := 4) (j := 4) (d := 68) rfl
    have gk5 : xs 5 = _ := goods_get hg (i := 5) (j := 5) (d := 69) rfl
    have gk6 : xs 6 = _ := goods_get hg (i := 6) (j := 6) (d := 70) rfl
    have gk7 : ∃ v1 r1, (xs 7) = .tuple #[v1, r1] ∧ WldV wx v1 X1 ∧ ResV wx r1 ⟨0, [], false⟩ := goods_get hg (i := 7) (j := 7) (d := 71) rfl
    have gk8 : ∃ v1 r1, (xs 8) = .tuple #[v1, r1] ∧ WldV wx v1 X1 ∧ ResV wx r1 ⟨0, [], false⟩ := goods_get hg (i := 8) (j := 8) (d := 63) rfl
    have gk9 : WldV wx (xs 9) X1 := goods_get hg (i := 9) (j := 9) (d := 72) rfl
    have gk10 : ResV wx (xs 10) ⟨0, [], false⟩ := goods_get hg (i := 10) (j := 10) (d := 73) rfl
    have gk11 : boxG 32 #[.int .i64 0, .int .i64 0, .slice none 0 0, .int .u64 0, .slice none 0 0, .slice none 0 0] wr.heap.size (xs 11) wx := goods_get hg (i := 11) (j := 11) (d := 13) rfl
    have gk12 : boxG 51 #[.int .u64 0, .slice none 0 0, .bool false] wr.heap.size (xs 12) wx := goods_get hg (i := 12) (j := 12) (d := 14) rfl
    clear hg
    simp only [putAll, gk0, gk1, gk2, gk3, gk4, gk5, gk6]
    clear gk0 gk1 gk2 gk3 gk4 gk5 gk6
    generalize xs 7 = vx7 at gk7 ⊢
    generalize xs 8 = vx8 at gk8 ⊢
    generalize xs 9 = vx9 at gk9 ⊢
    generalize xs 10 = vx10 at gk10 ⊢
    generalize xs 11 = vx11 at gk11 ⊢
    generalize xs 12 = vx12 at gk12 ⊢
    clear xs
    simp only [Act.put, List.setIfInBounds_toArray, List.set_cons_zero, List.set_cons_succ, List.drop_succ_cons, List.drop_zero]
    obtain ⟨gA, rfl, hgA, hcA⟩ := gk11
    obtain ⟨gB, rfl, hgB, hcB⟩ := gk12
    have hv1 := gk9
    obtain ⟨sA, sq, sc, sB, sb, sC, sd, rfl⟩ := gk9.form6
    clear gk9
    obtain ⟨wS, ws, wt, rfl, -⟩ := gk10
    clear gk7 gk8
    have hne : gA ≠ gB := fun e => by subst e; rw [hcA] at hcB; cases hcB
    have hE2 : Ext wr (((((((((wx.setCell ⟨gA, 0, none⟩ (.int .i64 X1.T)).setCell ⟨gA, 1, none⟩ (.int .i64 X1.C)).setCell ⟨gA, 2, none⟩ (.slice sA sq sc)).setCell ⟨gA, 3, none⟩ (.int .u64 X1.R)).setCell ⟨gA, 4, none⟩ (.slice sB X1.n sb)).setCell ⟨gA, 5, none⟩ (.slice sC X1.n sd)).setCell ⟨gB, 0, none⟩ (.int .u64 0)).setCell ⟨gB, 1, none⟩ (.slice wS ws wt)).setCell ⟨gB, 2, none⟩ (.bool false)) := setAll_ext (g := gB) (vs := [.int .u64 0, .slice wS ws wt, .bool false]) (i := 0) (setAll_ext (g := gA) (vs := [.int .i64 X1.T, .int .i64 X1.C, .slice sA sq sc, .int .u64 X1.R, .slice sB X1.n sb, .slice sC X1.n sd]) (i := 0) hx.drawn hgA) hgB
    have hfA : (((((((((wx.setCell ⟨gA, 0, none⟩ (.int .i64 X1.T)).setCell ⟨gA, 1, none⟩ (.int .i64 X1.C)).setCell ⟨gA, 2, none⟩ (.slice sA sq sc)).setCell ⟨gA, 3, none⟩ (.int .u64 X1.R)).setCell ⟨gA, 4, none⟩ (.slice sB X1.n sb)).setCell ⟨gA, 5, none⟩ (.slice sC X1.n sd)).setCell ⟨gB, 0, none⟩ (.int .u64 0)).setCell ⟨gB, 1, none⟩ (.slice wS ws wt)).setCell ⟨gB, 2, none⟩ (.bool false)).heap[gA]? = some (.cells #[.int .i64 X1.T, .int .i64 X1.C, .slice sA sq sc, .int .u64 X1.R, .slice sB X1.n sb, .slice sC X1.n sd] 32 (0, 0)) := (setAll_other (g := gB) hne [.int .u64 0, .slice wS ws wt, .bool false] 0 (setAll gA 0 [.int .i64 X1.T, .int .i64 X1.C, .slice sA sq sc, .int .u64 X1.R, .slice sB X1.n sb, .slice sC X1.n sd] wx)).trans (setAll_all (vs := [.int .i64 X1.T, .int .i64 X1.C, .slice sA sq sc, .int .u64 X1.R, .slice sB X1.n sb, .slice sC X1.n sd]) hcA rfl)
    have hBm : (setAll gA 0 [.int .i64 X1.T, .int .i64 X1.C, .slice sA sq sc, .int .u64 X1.R, .slice sB X1.n sb, .slice sC X1.n sd] wx).heap[gB]? = _ := (setAll_other (g := gA) (Ne.symm hne) [.int .i64 X1.T, .int .i64 X1.C, .slice sA sq sc, .int .u64 X1.R, .slice sB X1.n sb, .slice sC X1.n sd] 0 wx).trans hcB
    have hfB : (((((((((wx.setCell ⟨gA, 0, none⟩ (.int .i64 X1.T)).setCell ⟨gA, 1, none⟩ (.int .i64 X1.C)).setCell ⟨gA, 2, none⟩ (.slice sA sq sc)).setCell ⟨gA, 3, none⟩ (.int .u64 X1.R)).setCell ⟨gA, 4, none⟩ (.slice sB X1.n sb)).setCell ⟨gA, 5, none⟩ (.slice sC X1.n sd)).setCell ⟨gB, 0, none⟩ (.int .u64 0)).setCell ⟨gB, 1, none⟩ (.slice wS ws wt)).setCell ⟨gB, 2, none⟩ (.bool false)).heap[gB]? = some (.cells #[.int .u64 0, .slice wS ws wt, .bool false] 51 (0, 0)) := setAll_all (vs := [.int .u64 0, .slice wS ws wt, .bool false]) hBm rfl
    have hv2 := (hv1.but hl3 (But.all gA [.int .i64 X1.T, .int .i64 X1.C, .slice sA sq sc, .int .u64 X1.R, .slice sB X1.n sb, .slice sC X1.n sd] 0 wx) hcA rfl).but hl3 (But.all gB [.int .u64 0, .slice wS ws wt, .bool false] 0 _) hBm rfl
    change WldV (((((((((wx.setCell ⟨gA, 0, none⟩ (.int .i64 X1.T)).setCell ⟨gA, 1, none⟩ (.int .i64 X1.C)).setCell ⟨gA, 2, none⟩ (.slice sA sq sc)).setCell ⟨gA, 3, none⟩ (.int .u64 X1.R)).setCell ⟨gA, 4, none⟩ (.slice sB X1.n sb)).setCell ⟨gA, 5, none⟩ (.slice sC X1.n sd)).setCell ⟨gB, 0, none⟩ (.int .u64 0)).setCell ⟨gB, 1, none⟩ (.slice wS ws wt)).setCell ⟨gB, 2, none⟩ (.bool false)) _ _ at hv2
    have a0 : wx.cell? ⟨gA, 0, none⟩ = some (.int .i64 0) := by simp [World.cell?, hcA]
    have af0 : wx.frozen? ⟨gA, 0, none⟩ = false := by simp [World.frozen?, hcA]
    have a1 : wx.cell? ⟨gA, 1, none⟩ = some (.int .i64 0) := by simp [World.cell?, hcA]
    have af1 : wx.frozen? ⟨gA, 1, none⟩ = false := by simp [World.frozen?, hcA]
    have a2 : wx.cell? ⟨gA, 2, none⟩ = some (.slice none 0 0) := by simp [World.cell?, hcA]
    have af2 : wx.frozen? ⟨gA, 2, none⟩ = false := by simp [World.frozen?, hcA]
    have a3 : wx.cell? ⟨gA, 3, none⟩ = some (.int .u64 0) := by simp [World.cell?, hcA]
    have af3 : wx.frozen? ⟨gA, 3, none⟩ = false := by simp [World.frozen?, hcA]
    have a4 : wx.cell? ⟨gA, 4, none⟩ = some (.slice none 0 0) := by simp [World.cell?, hcA]
    have af4 : wx.frozen? ⟨gA, 4, none⟩ = false := by simp [World.frozen?, hcA]
    have a5 : wx.cell? ⟨gA, 5, none⟩ = some (.slice none 0 0) := by simp [World.cell?, hcA]
    have af5 : wx.frozen? ⟨gA, 5, none⟩ = false := by simp [World.frozen?, hcA]
    have b0 : wx.cell? ⟨gB, 0, none⟩ = some (.int .u64 0) := by simp [World.cell?, hcB]
    have bf0 : wx.frozen? ⟨gB, 0, none⟩ = false := by simp [World.frozen?, hcB]
    have b1 : wx.cell? ⟨gB, 1, none⟩ = some (.slice none 0 0) := by simp [World.cell?, hcB]
    have bf1 : wx.frozen? ⟨gB, 1, none⟩ = false := by simp [World.frozen?, hcB]
    have b2 : wx.cell? ⟨gB, 2, none⟩ = some (.bool false) := by simp [World.cell?, hcB]
    have bf2 : wx.frozen? ⟨gB, 2, none⟩ = false := by simp [World.frozen?, hcB]
    clear hX
    go_upto_region 14 with (fail)
    generalize (((((((((wx.setCell ⟨gA, 0, none⟩ (.int .i64 X1.T)).setCell ⟨gA, 1, none⟩ (.int .i64 X1.C)).setCell ⟨gA, 2, none⟩ (.slice sA sq sc)).setCell ⟨gA, 3, none⟩ (.int .u64 X1.R)).setCell ⟨gA, 4, none⟩ (.slice sB X1.n sb)).setCell ⟨gA, 5, none⟩ (.slice sC X1.n sd)).setCell ⟨gB, 0, none⟩ (.int .u64 0)).setCell ⟨gB, 1, none⟩ (.slice wS ws wt)).setCell ⟨gB, 2, none⟩ (.bool false)) = wf at *
    clear a0 af0 a1 af1 a2 af2 a3 af3 a4 af4 a5 af5 b0 bf0 b1 bf1 b2 bf2 hBm hcA hcB hv1 hx
    have hbx0 := heap_ext HBX.out hE2
    have hWr := HWR.out.trans hE2
    have hO := HO.out.ext hE2
    have hT := HT.out.ext hE2
    have hgr := Nat.lt_of_lt_of_le HGR.out hE2.size
    have hgu := HGR.out
    have nwA : ¬ gw = gA := by omega
    have nwB : ¬ gw = gB := by omega
    have b0 : wf.cell? ⟨gB, 0, none⟩ = some (.int .u64 0) := by simp [World.cell?, hfB]
    have b1 : wf.cell? ⟨gB, 1, none⟩ = some (.slice wS ws wt) := by simp [World.cell?, hfB]
    have b2 : wf.cell? ⟨gB, 2, none⟩ = some (.bool false) := by simp [World.cell?, hfB]
    have a0 : wf.cell? ⟨gA, 0, none⟩ = some (.int .i64 X1.T) := by simp [World.cell?, hfA]
    have a1 : wf.cell? ⟨gA, 1, none⟩ = some (.int .i64 X1.C) := by simp [World.cell?, hfA]
    have a2 : wf.cell? ⟨gA, 2, none⟩ = some (.slice sA sq sc) := by simp [World.cell?, hfA]
    have a3 : wf.cell? ⟨gA, 3, none⟩ = some (.int .u64 X1.R) := by simp [World.cell?, hfA]
    have a4 : wf.cell? ⟨gA, 4, none⟩ = some (.slice sB X1.n sb) := by simp [World.cell?, hfA]
    have a5 : wf.cell? ⟨gA, 5, none⟩ = some (.slice sC X1.n sd) := by simp [World.cell?, hfA]
    have e0 : wf.cell? ⟨gw, 0, none⟩ = some (.int .i64 X.T) := by simp [World.cell?, hbx0]
    have ef0 : wf.frozen? ⟨gw, 0, none⟩ = false := by simp [World.frozen?, hbx0]
    have e1 : wf.cell? ⟨gw, 1, none⟩ = some (.int .i64 X.C) := by simp [World.cell?, hbx0]
    have ef1 : wf.frozen? ⟨gw, 1, none⟩ = false := by simp [World.frozen?, hbx0]
    have e2 : wf.cell? ⟨gw, 2, none⟩ = some (.slice bA bq bc) := by simp [World.cell?, hbx0]
    have ef2 : wf.frozen? ⟨gw, 2, none⟩ = false := by simp [World.frozen?, hbx0]
    have e3 : wf.cell? ⟨gw, 3, none⟩ = some (.int .u64 X.R) := by simp [World.cell?, hbx0]
    have ef3 : wf.frozen? ⟨gw, 3, none⟩ = false := by simp [World.frozen?, hbx0]
    have e4 : wf.cell? ⟨gw, 4, none⟩ = some (.slice bB X.n bb) := by simp [World.cell?, hbx0]
    have ef4 : wf.frozen? ⟨gw, 4, none⟩ = false := by simp [World.frozen?, hbx0]
    have e5 : wf.cell? ⟨gw, 5, none⟩ = some (.slice bC X.n bd) := by simp [World.cell?, hbx0]
    have ef5 : wf.frozen? ⟨gw, 5, none⟩ = false := by simp [World.frozen?, hbx0]
    go_upto_region 17 with (fail)
    have hWg : Ext w ((((((wf.setCell ⟨gw, 0, none⟩ (.int .i64 X1.T)).setCell ⟨gw, 1, none⟩ (.int .i64 X1.C)).setCell ⟨gw, 2, none⟩ (.slice sA sq sc)).setCell ⟨gw, 3, none⟩ (.int .u64 X1.R)).setCell ⟨gw, 4, none⟩ (.slice sB X1.n sb)).setCell ⟨gw, 5, none⟩ (.slice sC X1.n sd)) := setAll_ext (g := gw) (vs := [.int .i64 X1.T, .int .i64 X1.C, .slice sA sq sc, .int .u64 X1.R, .slice sB X1.n sb, .slice sC X1.n sd]) (i := 0) hWr hgw0
    have hb3 : ((((((wf.setCell ⟨gw, 0, none⟩ (.int .i64 X1.T)).setCell ⟨gw, 1, none⟩ (.int .i64 X1.C)).setCell ⟨gw, 2, none⟩ (.slice sA sq sc)).setCell ⟨gw, 3, none⟩ (.int .u64 X1.R)).setCell ⟨gw, 4, none⟩ (.slice sB X1.n sb)).setCell ⟨gw, 5, none⟩ (.slice sC X1.n sd)).heap[gw]? = some (.cells #[.int .i64 X1.T, .int .i64 X1.C, .slice sA sq sc, .int .u64 X1.R, .slice sB X1.n sb, .slice sC X1.n sd] 32 (0, 0)) := setAll_all (vs := [.int .i64 X1.T, .int .i64 X1.C, .slice sA sq sc, .int .u64 X1.R, .slice sB X1.n sb, .slice sC X1.n sd]) hbx0 rfl
    have hv3 := hv2.but hl3 (But.all gw [.int .i64 X1.T, .int .i64 X1.C, .slice sA sq sc, .int .u64 X1.R, .slice sB X1.n sb, .slice sC X1.n sd] 0 wf) hbx0 rfl
    change WldV ((((((wf.setCell ⟨gw, 0, none⟩ (.int .i64 X1.T)).setCell ⟨gw, 1, none⟩ (.int .i64 X1.C)).setCell ⟨gw, 2, none⟩ (.slice sA sq sc)).setCell ⟨gw, 3, none⟩ (.int .u64 X1.R)).setCell ⟨gw, 4, none⟩ (.slice sB X1.n sb)).setCell ⟨gw, 5, none⟩ (.slice sC X1.n sd)) _ _ at hv3
    have hO3 : TwoS ((((((wf.setCell ⟨gw, 0, none⟩ (.int .i64 X1.T)).setCell ⟨gw, 1, none⟩ (.int .i64 X1.C)).setCell ⟨gw, 2, none⟩ (.slice sA sq sc)).setCell ⟨gw, 3, none⟩ (.int .u64 X1.R)).setCell ⟨gw, 4, none⟩ (.slice sB X1.n sb)).setCell ⟨gw, 5, none⟩ (.slice sC X1.n sd)) gO o := (setAll_other (g := gw) nOw [.int .i64 X1.T, .int .i64 X1.C, .slice sA sq sc, .int .u64 X1.R, .slice sB X1.n sb, .slice sC X1.n sd] 0 wf).trans hO
    have hT3 : TwoS ((((((wf.setCell ⟨gw, 0, none⟩ (.int .i64 X1.T)).setCell ⟨gw, 1, none⟩ (.int .i64 X1.C)).setCell ⟨gw, 2, none⟩ (.slice sA sq sc)).setCell ⟨gw, 3, none⟩ (.int .u64 X1.R)).setCell ⟨gw, 4, none⟩ (.slice sB X1.n sb)).setCell ⟨gw, 5, none⟩ (.slice sC X1.n sd)) gS (fun k => (o k).take (s k)) := (setAll_other (g := gw) nSw [.int .i64 X1.T, .int .i64 X1.C, .slice sA sq sc, .int .u64 X1.R, .slice sB X1.n sb, .slice sC X1.n sd] 0 wf).trans hT
    have hgr3 : gS < ((((((wf.setCell ⟨gw, 0, none⟩ (.int .i64 X1.T)).setCell ⟨gw, 1, none⟩ (.int .i64 X1.C)).setCell ⟨gw, 2, none⟩ (.slice sA sq sc)).setCell ⟨gw, 3, none⟩ (.int .u64 X1.R)).setCell ⟨gw, 4, none⟩ (.slice sB X1.n sb)).setCell ⟨gw, 5, none⟩ (.slice sC X1.n sd)).heap.size := by rw [show ((((((wf.setCell ⟨gw, 0, none⟩ (.int .i64 X1.T)).setCell ⟨gw, 1, none⟩ (.int .i64 X1.C)).setCell ⟨gw, 2, none⟩ (.slice sA sq sc)).setCell ⟨gw, 3, none⟩ (.int .u64 X1.R)).setCell ⟨gw, 4, none⟩ (.slice sB X1.n sb)).setCell ⟨gw, 5, none⟩ (.slice sC X1.n sd)).heap.size = wf.heap.size from by simp [World.setCell]]; exact hgr
    clear b0 b1 b2 a0 a1 a2 a3 a4 a5 e0 e1 e2 e3 e4 e5 ef0 ef1 ef2 ef3 ef4 ef5 hfA hfB hbx0 hv2 hO hT hgr hWr HBX HWR HO HT HGR hE2
    generalize ((((((wf.setCell ⟨gw, 0, none⟩ (.int .i64 X1.T)).setCell ⟨gw, 1, none⟩ (.int .i64 X1.C)).setCell ⟨gw, 2, none⟩ (.slice sA sq sc)).setCell ⟨gw, 3, none⟩ (.int .u64 X1.R)).setCell ⟨gw, 4, none⟩ (.slice sB X1.n sb)).setCell ⟨gw, 5, none⟩ (.slice sC X1.n sd)) = wg at *
    have hBg := hBl.ext hWg
    have y0 := hWg.cell hca
    have y2 := hWg.cell hcs
    obtain ⟨o0, of0⟩ := hO3.at hz2
    have hol : (o kk).length ≤ 1000 := by have := hok.2; omega
    have hX : ∀ wx, Ext wg wx → wx.cell? ⟨gO, kk, none⟩ = some (strV (o kk)) ∧ wx.cell? (a.add j) = some (.slice A' m' c') := fun wx hx => ⟨hx.cell o0, hx.cell y0⟩
    have l1 : ¬ 9223372036854775807 < (o kk).length + l.length := by omega
    have l2 : ¬ 9223372036854775807 < (o kk).length + m' := by omega
    simp only [strV] at hX
    refine' wp_region_sure ⟨((some 77, [], none) :: (some 78, [], none) :: (some 79, [], none) :: (some 80, [], none) :: (some 81, [2, 3], none) :: (some 82, [4], none) :: (some 83, [], none) :: (some 84, [], none) :: (some 85, [6, 7], none) :: (some 86, [8], none) :: (some 87, [9], none) :: (some 88, [5, 10], none) :: (some 89, [0, 1, 0, 1, 2, 3, 4, 5, 6, 7, 8, 9, 10, 11], none) :: (none, [12, 11, 0, 1, 2, 3, 4, 5, 6, 7, 8, 9, 10, 11], none) :: []), (0 :: 0 :: 0 :: 0 :: 12 :: 28 :: 0 :: 0 :: 192 :: 448 :: 960 :: 2044 :: 4095 :: 8191 :: []), (true :: true :: true :: true :: true :: true :: true :: true :: true :: true :: true :: true :: true :: []), [], 0⟩ 13 153 ((0, 77) :: (1, 78) :: (2, 79) :: (3, 80) :: (4, 81) :: (5, 82) :: (6, 83) :: (7, 84) :: (8, 85) :: (9, 86) :: (10, 87) :: (11, 88) :: (12, 89) :: []) ((0, 77) :: (1, 78) :: (2, 79) :: (3, 80) :: (4, 81) :: (5, 82) :: (6, 83) :: (7, 84) :: (8, 85) :: (9, 86) :: (10, 87) :: (11, 88) :: (12, 89) :: []) (.det _ :: .det _ :: .det _ :: .det _ :: .det _ :: .det _ :: .det _ :: .det _ :: .det _ :: .det _ :: .det _ :: .det _ :: .det _ :: []) (by kernel_rfl) (by kernel_rfl) (by kernel_rfl) rfl (by kernel_rfl) (by kernel_rfl) rfl ?hone ?hend
    case hone =>
     intro CS frS VS hCS ha hV
     have qs0 := slot_val (t := 0) ha rfl
     simp only [List.getElem_toArray, List.getElem_cons_succ, List.getElem_cons_zero] at qs0
     have qs9 := slot_val (t := 9) ha rfl
     simp only [List.getElem_toArray, List.getElem_cons_succ, List.getElem_cons_zero] at qs9
     have qs11 := slot_val (t := 11) ha rfl
     simp only [List.getElem_toArray, List.getElem_cons_succ, List.getElem_cons_zero] at qs11
     have qs12 := slot_val (t := 12) ha rfl
     simp only [List.getElem_toArray, List.getElem_cons_succ, List.getElem_cons_zero] at qs12
     have HCS := Lib.hid hCS
     have HVS := Lib.hid hV
     clear ha hCS hV
     refine sure_det (js := []) (ts := [9]) (gd := none) (place_at HVS.out (k := 0) rfl) (by rw [HCS.out]; kernel_rfl) ?_ ?_
     ·intro wx hx ρ hρ hs hf; have hρc := hρ.const; have hρf := hρ.func
      obtain ⟨fx9, -⟩ := hf; rw [qs9] at fx9
      clear hs
      clear HCS HVS qs0 qs9 qs11 qs12
      refine run_plain ?_
      refine op_move rfl fx9 ?_
      exact detK.mk
     refine sure_det (js := []) (ts := [12]) (gd := none) (place_at HVS.out (k := 1) rfl) (by rw [HCS.out]; kernel_rfl) ?_ ?_
     ·intro wx hx ρ hρ hs hf; have hρc := hρ.const; have hρf := hρ.func
      obtain ⟨fx12, -⟩ := hf; rw [qs12] at fx12
      clear hs
      clear HCS HVS qs0 qs9 qs11 qs12
      refine run_plain ?_
      refine op_move rfl fx12 ?_
      exact detK.mk
     refine sure_det (js := []) (ts := [9]) (gd := none) (place_at HVS.out (k := 2) rfl) (by rw [HCS.out]; kernel_rfl) ?_ ?_
     ·intro wx hx ρ hρ hs hf; have hρc := hρ.const; have hρf := hρ.func
      obtain ⟨fx9, -⟩ := hf; rw [qs9] at fx9
      clear hs
      clear HCS HVS qs0 qs9 qs11 qs12
      refine run_plain ?_
      refine op_move rfl fx9 ?_
      exact detK.mk
     refine sure_det (js := []) (ts := [12]) (gd := none) (place_at HVS.out (k := 3) rfl) (by rw [HCS.out]; kernel_rfl) ?_ ?_
     ·intro wx hx ρ hρ hs hf; have hρc := hρ.const; have hρf := hρ.func
      obtain ⟨fx12, -⟩ := hf; rw [qs12] at fx12
      clear hs
      clear HCS HVS qs0 qs9 qs11 qs12
      refine run_plain ?_
      refine op_move rfl fx12 ?_
      exact detK.mk
     refine sure_det (js := [(2, 79), (3, 80)]) (ts := []) (gd := none) (place_at HVS.out (k := 4) rfl) (by rw [HCS.out]; kernel_rfl) ?_ ?_
     ·intro wx hx ρ hρ hs hf; have hρc := hρ.const; have hρf := hρ.func; obtain ⟨sn2, sn3, -⟩ := hs; rw [place_at HVS.out (k := 2) rfl] at sn2; replace sn2 : ρ (.tmp 79) = _ := sn2; rw [place_at HVS.out (k := 3) rfl] at sn3; replace sn3 : ρ (.tmp 80) = _ := sn3
      clear hf
      clear HCS HVS qs0 qs9 qs11 qs12
      refine run_plain ?_
      unfold runs
      go_simp
      exact detK.mk
     refine sure_det (js := [(4, 81)]) (ts := []) (gd := none) (place_at HVS.out (k := 5) rfl) (by rw [HCS.out]; kernel_rfl) ?_ ?_
     ·intro wx hx ρ hρ hs hf; have hρc := hρ.const; have hρf := hρ.func; obtain ⟨sn4, -⟩ := hs; rw [place_at HVS.out (k := 4) rfl] at sn4; replace sn4 : ρ (.tmp 81) = _ := sn4
      clear hf
      clear HCS HVS qs0 qs9 qs11 qs12
      refine run_plain ?_
      obtain ⟨p0, p1⟩ := hX wx hx.drawn
      unfold runs
      go_simp
      exact detK.mk
     refine sure_det (js := []) (ts := [0]) (gd := none) (place_at HVS.out (k := 6) rfl) (by rw [HCS.out]; kernel_rfl) ?_ ?_
     ·intro wx hx ρ hρ hs hf; have hρc := hρ.const; have hρf := hρ.func
      obtain ⟨fx0, -⟩ := hf; rw [qs0] at fx0
      clear hs
      clear HCS HVS qs0 qs9 qs11 qs12
      refine run_plain ?_
      refine op_move rfl fx0 ?_
      exact detK.mk
     refine sure_det (js := []) (ts := [11]) (gd := none) (place_at HVS.out (k := 7) rfl) (by rw [HCS.out]; kernel_rfl) ?_ ?_
     ·intro wx hx ρ hρ hs hf; have hρc := hρ.const; have hρf := hρ.func
      obtain ⟨fx11, -⟩ := hf; rw [qs11] at fx11
      clear hs
      clear HCS HVS qs0 qs9 qs11 qs12
      refine run_plain ?_
      refine op_move rfl fx11 ?_
      exact detK.mk
     refine sure_det (js := [(6, 83), (7, 84)]) (ts := []) (gd := none) (place_at HVS.out (k := 8) rfl) (by rw [HCS.out]; kernel_rfl) ?_ ?_
     ·intro wx hx ρ hρ hs hf; have hρc := hρ.const; have hρf := hρ.func; obtain ⟨sn6, sn7, -⟩ := hs; rw [place_at HVS.out (k := 6) rfl] at sn6; replace sn6 : ρ (.tmp 83) = _ := sn6; rw [place_at HVS.out (k := 7) rfl] at sn7; replace sn7 : ρ (.tmp 84) = _ := sn7
      clear hf
      clear HCS HVS qs0 qs9 qs11 qs12
      refine run_plain ?_
      unfold runs
      go_simp
      exact detK.mk
     refine sure_det (js := [(8, 85)]) (ts := []) (gd := none) (place_at HVS.out (k := 9) rfl) (by rw [HCS.out]; kernel_rfl) ?_ ?_
     ·intro wx hx ρ hρ hs hf; have hρc := hρ.const; have hρf := hρ.func; obtain ⟨sn8, -⟩ := hs; rw [place_at HVS.out (k := 8) rfl] at sn8; replace sn8 : ρ (.tmp 85) = _ := sn8
      clear hf
      clear HCS HVS qs0 qs9 qs11 qs12
      refine run_plain ?_
      obtain ⟨p0, p1⟩ := hX wx hx.drawn
      unfold runs
      go_simp
      exact detK.mk
     refine sure_det (js := [(9, 86)]) (ts := []) (gd := none) (place_at HVS.out (k := 10) rfl) (by rw [HCS.out]; kernel_rfl) ?_ ?_
     ·intro wx hx ρ hρ hs hf; have hρc := hρ.const; have hρf := hρ.func; obtain ⟨sn9, -⟩ := hs; rw [place_at HVS.out (k := 9) rfl] at sn9; replace sn9 : ρ (.tmp 86) = _ := sn9
      clear hf
      clear HCS HVS qs0 qs9 qs11 qs12
      refine run_plain ?_
      have q1 := run_convert_bytesV (P := Try.prog) (hBg.ext hx.drawn) Try.underlying40 Try.underlying5 Try.underlying9
      unfold runs
      go_simp
      exact detK.mk
     refine sure_det (js := [(5, 82), (10, 87)]) (ts := []) (gd := none) (place_at HVS.out (k := 11) rfl) (by rw [HCS.out]; kernel_rfl) ?_ ?_
     ·intro wx hx ρ hρ hs hf; have hρc := hρ.const; have hρf := hρ.func; obtain ⟨sn5, sn10, -⟩ := hs; rw [place_at HVS.out (k := 5) rfl] at sn5; replace sn5 : ρ (.tmp 82) = _ := sn5; rw [place_at HVS.out (k := 10) rfl] at sn10; replace sn10 : ρ (.tmp 87) = _ := sn10
      clear hf
      clear HCS HVS qs0 qs9 qs11 qs12
      refine run_plain ?_
      unfold runs
      go_simp
      exact detK.mk
     refine sure_det (js := [(0, 77), (1, 78)]) (ts := []) (gd := none) (place_at HVS.out (k := 12) rfl) (by rw [HCS.out]; kernel_rfl) ?_ ?_
     ·intro wx hx ρ hρ hs hf; have hρc := hρ.const; have hρf := hρ.func; obtain ⟨sn0, sn1, -⟩ := hs; rw [place_at HVS.out (k := 0) rfl] at sn0; replace sn0 : ρ (.tmp 77) = _ := sn0; rw [place_at HVS.out (k := 1) rfl] at sn1; replace sn1 : ρ (.tmp 78) = _ := sn1
      clear hf
      clear HCS HVS qs0 qs9 qs11 qs12
      refine run_plain ?_
      unfold runs
      go_simp
      exact detK.mk
     exact trivial
    case hend =>
     intro xs wx hx hg
     have gk0 : xs 0 = _ := goods_get hg (i := 0) (j := 0) (d := 77) rfl
     have gk1 : xs 1 = _ := goods_get hg (i := 1) (j := 1) (d := 78) rfl
     have gk2 : xs 2 = _ := goods_get hg (i := 2) (j := 2) (d := 79) rfl
     have gk3 : xs 3 = _ := goods_get hg (i := 3) (j := 3) (d := 80) rfl
     have gk4 : xs 4 = _ := goods_get hg (i := 4) (j := 4) (d := 81) rfl
     have gk5 : xs 5 = _ := goods_get hg (i := 5) (j := 5) (d := 82) rfl
     have gk6 : xs 6 = _ := goods_get hg (i := 6) (j := 6) (d := 83) rfl
     have gk7 : xs 7 = _ := goods_get hg (i := 7) (j := 7) (d := 84) rfl
     have gk8 : xs 8 = _ := goods_get hg (i := 8) (j := 8) (d := 85) rfl
     have gk9 : xs 9 = _ := goods_get hg (i := 9) (j := 9) (d := 86) rfl
     have gk10 : xs 10 = _ := goods_get hg (i := 10) (j := 10) (d := 87) rfl
     have gk11 : xs 11 = _ := goods_get hg (i := 11) (j := 11) (d := 88) rfl
     have gk12 : xs 12 = _ := goods_get hg (i := 12) (j := 12) (d := 89) rfl
     clear hg
     simp only [putAll, gk0, gk1, gk2, gk3, gk4, gk5, gk6, gk7, gk8, gk9, gk10, gk11, gk12]
     clear gk0 gk1 gk2 gk3 gk4 gk5 gk6 gk7 gk8 gk9 gk10 gk11 gk12
     clear xs
     simp only [Act.put, List.setIfInBounds_toArray, List.set_cons_zero, List.set_cons_succ, List.drop_succ_cons, List.drop_zero]
     have hO4 := hO3.ext hx.drawn
     have hT4 := hT3.ext hx.drawn
     have hb4 := heap_ext hb3 hx.drawn
     have hv4 := hv3.ext hx.drawn
     have hW4 := hWg.trans hx.drawn
     have hg4 := Nat.lt_of_lt_of_le hgr3 hx.drawn.size
     have y4 := hx.drawn.cell y2
     obtain ⟨p0, pf0⟩ := hO4.at hz2
     simp only [strV] at p0
     clear hX o0 of0 hO3 hT3 hb3 hv3 hWg hgr3 y0 y2 hBg hx
     go_upto_region 18 with (fail)
     rw [a_cat]
     have hO5 := hO4.set hz2 (o kk ++ l)
     have hT5 := hT4.other (p := ⟨gO, kk, none⟩) nOS (strV (o kk ++ l))
     have hb5' := (Below.heap_setCell wx ⟨gO, kk, none⟩ (strV (o kk ++ l)) gw nwO).trans hb4
     have hv5 := hO4.wld hv4 hl3 kk (strV (o kk ++ l))
     have hW5 : Ext w (wx.setCell ⟨gO, kk, none⟩ (strV (o kk ++ l))) := hW4.setCell (by simp; omega) _
     have hg5 : gS < (wx.setCell ⟨gO, kk, none⟩ (strV (o kk ++ l))).heap.size := by simpa [World.setCell] using hg4
     have y5 : (wx.setCell ⟨gO, kk, none⟩ (strV (o kk ++ l))).cell? (sF.add j) = some (.bool bt) := hW5.cell hcs
     clear hO4 hT4 hb4 hv4 hW4 hg4 y4 p0 pf0
     simp only [strV] at hW5 hg5 y5 hb5' hv5
     generalize hws : wx.setCell ⟨gO, kk, none⟩ (.string ⟨(o kk ++ l).toArray⟩) = w5 at *
     have hO6 : TwoS w5 gO (updF o kk (o kk ++ l)) := hws ▸ hO5
     have hT6 : TwoS w5 gS (fun k => (o k).take (s k)) := hws ▸ hT5
     have hT7 : TwoS w5 gS (fun k => (updF o kk (o kk ++ l) k).take (s k)) := by
      have e : ∀ k, (updF o kk (o kk ++ l) k).take (s k) = (o k).take (s k) := fun k => by
       unfold updF; split
       ·rename_i h; subst h; rw [List.take_append_of_le_length hok.1]
       ·rfl
      unfold TwoS at *
      simp only [e]; exact hT6
     have hos7 : ∀ k, s k ≤ (updF o kk (o kk ++ l) k).length ∧ (updF o kk (o kk ++ l) k).length ≤ 50 * (j + 1) := fun k => by
      have := hos k
      unfold updF; split
      ·rename_i h; subst h; rw [List.length_append]; omega
      ·omega
     clear hO5 hT5 hT6 hws
     have hbx5 : BoxW w5 gw X1 := ⟨_, hb5', hv5⟩
     have HX1 := HXB.out
     clear hb5' hv5 HXB
     generalize updF o kk (o kk ++ l) = o' at *
     rw [← HX1] at hbx5
     clear HX1 hl3
     cases bt with
     | false =>
      go_wp2
      go_roundw
      case rel => exact ⟨j + 1, o', s, by go_num, by omega, hos7, hW5, hg5, hO6, hT7, hbx5⟩
      case measure => simp [intOf]; omega
     | true =>
      have hX1 := aSyn (o := o') (s := s) hz2
      have hR1 := aSynR (o := o') (s := s)
      have hF1 : Fit (aX o' s) 0 := aFit (by have := (hos7 0).2; omega) (by have := (hos7 1).2; omega) (by omega)
      have hl3 : 2 ≤ (aX o' (updF s kk (o' kk).length)).ws.length := by simp [aX]
      generalize hXa : aX o' s = X at *
      generalize hXb : aX o' (updF s kk (o' kk).length) = X2 at *
      have HX1 := Lib.hid hX1
      have HR1 := Lib.hid hR1
      have HXB := Lib.hid hXb
      clear hX1 hR1 hXa hXb
      obtain ⟨bA, bq, bc, bB, bb, bC, bd, hbx0, hbxV⟩ := hbx5.form
      clear hbx5
      have e0 : w5.cell? ⟨gw, 0, none⟩ = some (.int .i64 X.T) := by simp [World.cell?, hbx0]
      have e1 : w5.cell? ⟨gw, 1, none⟩ = some (.int .i64 X.C) := by simp [World.cell?, hbx0]
      have e2 : w5.cell? ⟨gw, 2, none⟩ = some (.slice bA bq bc) := by simp [World.cell?, hbx0]
      have e3 : w5.cell? ⟨gw, 3, none⟩ = some (.int .u64 X.R) := by simp [World.cell?, hbx0]
      have e4 : w5.cell? ⟨gw, 4, none⟩ = some (.slice bB X.n bb) := by simp [World.cell?, hbx0]
      have e5 : w5.cell? ⟨gw, 5, none⟩ = some (.slice bC X.n bd) := by simp [World.cell?, hbx0]
      go_wp2_with fail
      refine (do_all _ _ X (kk : Int) ⟨6, 0, 0, 0, [], []⟩ false _ hbxV ⟨none, 0, 0, none, 0, 0, rfl, bytes_nil _, words_nil _, by simp, by simp⟩ (hF1.le_ (by simp [useM]))).mono ?_
      rintro e w6 ⟨v1, r1, rfl, hV1, hR1, hx⟩
      rw [HX1.out] at hV1
      rw [HR1.out] at hR1
      obtain ⟨zA, zq, zc, zB, zb, zC, zd, rfl⟩ := hV1.form6
      obtain ⟨yS, ys, yt, rfl, -⟩ := hR1
      simp only
      clear e0 e1 e2 e3 e4 e5 hbxV
      replace hbx0 := heap_ext hbx0 hx
      replace hO6 := hO6.ext hx
      replace hT7 := hT7.ext hx
      replace hW5 := hW5.trans hx
      replace hg5 := Nat.lt_of_lt_of_le hg5 hx.size
      clear hx
      go_upto_region 20 with (fail)
      obtain ⟨hx, h15, h16⟩ := two_boxes7 w6 (.cells #[.int .i64 X2.T, .int .i64 X2.C, .slice zA zq zc, .int .u64 X2.R, .slice zB X2.n zb, .slice zC X2.n zd] 32) (.cells #[.int .u64 0, .slice yS ys yt, .bool false] 51)
      generalize (w6.alloc (.cells #[.int .i64 X2.T, .int .i64 X2.C, .slice zA zq zc, .int .u64 X2.R, .slice zB X2.n zb, .slice zC X2.n zd] 32)).alloc (.cells #[.int .u64 0, .slice yS ys yt, .bool false] 51) = w7 at *
      have hg6 := hg5
      replace hg5 := Nat.lt_of_lt_of_le hg5 hx.size
      generalize w6.heap.size = g15 at *
      replace hbx0 := heap_ext hbx0 hx
      replace hO6 := hO6.ext hx
      replace hT7 := hT7.ext hx
      replace hW5 := hW5.trans hx
      replace hV1 := hV1.ext hx
      clear hx
      have nw15 : ¬ gw = g15 := by omega
      have nw16 : ¬ gw = g15 + 1 := by omega
      have a0 : w7.cell? ⟨g15, 0, none⟩ = some (.int .i64 X2.T) := by simp [World.cell?, h15]
      have a1 : w7.cell? ⟨g15, 1, none⟩ = some (.int .i64 X2.C) := by simp [World.cell?, h15]
      have a2 : w7.cell? ⟨g15, 2, none⟩ = some (.slice zA zq zc) := by simp [World.cell?, h15]
      have a3 : w7.cell? ⟨g15, 3, none⟩ = some (.int .u64 X2.R) := by simp [World.cell?, h15]
      have a4 : w7.cell? ⟨g15, 4, none⟩ = some (.slice zB X2.n zb) := by simp [World.cell?, h15]
      have a5 : w7.cell? ⟨g15, 5, none⟩ = some (.slice zC X2.n zd) := by simp [World.cell?, h15]
      have b0 : w7.cell? ⟨g15 + 1, 0, none⟩ = some (.int .u64 0) := by simp [World.cell?, h16]
      have b1 : w7.cell? ⟨g15 + 1, 1, none⟩ = some (.slice yS ys yt) := by simp [World.cell?, h16]
      have b2 : w7.cell? ⟨g15 + 1, 2, none⟩ = some (.bool false) := by simp [World.cell?, h16]
      have e0 : w7.cell? ⟨gw, 0, none⟩ = some (.int .i64 X.T) := by simp [World.cell?, hbx0]
      have ef0 : w7.frozen? ⟨gw, 0, none⟩ = false := by simp [World.frozen?, hbx0]
      have e1 : w7.cell? ⟨gw, 1, none⟩ = some (.int .i64 X.C) := by simp [World.cell?, hbx0]
      have ef1 : w7.frozen? ⟨gw, 1, none⟩ = false := by simp [World.frozen?, hbx0]
      have e2 : w7.cell? ⟨gw, 2, none⟩ = some (.slice bA bq bc) := by simp [World.cell?, hbx0]
      have ef2 : w7.frozen? ⟨gw, 2, none⟩ = false := by simp [World.frozen?, hbx0]
      have e3 : w7.cell? ⟨gw, 3, none⟩ = some (.int .u64 X.R) := by simp [World.cell?, hbx0]
      have ef3 : w7.frozen? ⟨gw, 3, none⟩ = false := by simp [World.frozen?, hbx0]
      have e4 : w7.cell? ⟨gw, 4, none⟩ = some (.slice bB X.n bb) := by simp [World.cell?, hbx0]
      have ef4 : w7.frozen? ⟨gw, 4, none⟩ = false := by simp [World.frozen?, hbx0]
      have e5 : w7.cell? ⟨gw, 5, none⟩ = some (.slice bC X.n bd) := by simp [World.cell?, hbx0]
      have ef5 : w7.frozen? ⟨gw, 5, none⟩ = false := by simp [World.frozen?, hbx0]
      go_upto_region 23 with (fail)
      have hW8 : Ext w ((((((w7.setCell ⟨gw, 0, none⟩ (.int .i64 X2.T)).setCell ⟨gw, 1, none⟩ (.int .i64 X2.C)).setCell ⟨gw, 2, none⟩ (.slice zA zq zc)).setCell ⟨gw, 3, none⟩ (.int .u64 X2.R)).setCell ⟨gw, 4, none⟩ (.slice zB X2.n zb)).setCell ⟨gw, 5, none⟩ (.slice zC X2.n zd)) := setAll_ext (g := gw) (vs := [.int .i64 X2.T, .int .i64 X2.C, .slice zA zq zc, .int .u64 X2.R, .slice zB X2.n zb, .slice zC X2.n zd]) (i := 0) hW5 hgw0
      have hb8' : ((((((w7.setCell ⟨gw, 0, none⟩ (.int .i64 X2.T)).setCell ⟨gw, 1, none⟩ (.int .i64 X2.C)).setCell ⟨gw, 2, none⟩ (.slice zA zq zc)).setCell ⟨gw, 3, none⟩ (.int .u64 X2.R)).setCell ⟨gw, 4, none⟩ (.slice zB X2.n zb)).setCell ⟨gw, 5, none⟩ (.slice zC X2.n zd)).heap[gw]? = some (.cells #[.int .i64 X2.T, .int .i64 X2.C, .slice zA zq zc, .int .u64 X2.R, .slice zB X2.n zb, .slice zC X2.n zd] 32 (0, 0)) := setAll_all (vs := [.int .i64 X2.T, .int .i64 X2.C, .slice zA zq zc, .int .u64 X2.R, .slice zB X2.n zb, .slice zC X2.n zd]) hbx0 rfl
      have hv8 := hV1.but hl3 (But.all gw [.int .i64 X2.T, .int .i64 X2.C, .slice zA zq zc, .int .u64 X2.R, .slice zB X2.n zb, .slice zC X2.n zd] 0 w7) hbx0 rfl
      change WldV ((((((w7.setCell ⟨gw, 0, none⟩ (.int .i64 X2.T)).setCell ⟨gw, 1, none⟩ (.int .i64 X2.C)).setCell ⟨gw, 2, none⟩ (.slice zA zq zc)).setCell ⟨gw, 3, none⟩ (.int .u64 X2.R)).setCell ⟨gw, 4, none⟩ (.slice zB X2.n zb)).setCell ⟨gw, 5, none⟩ (.slice zC X2.n zd)) _ _ at hv8
      have hO8 : TwoS ((((((w7.setCell ⟨gw, 0, none⟩ (.int .i64 X2.T)).setCell ⟨gw, 1, none⟩ (.int .i64 X2.C)).setCell ⟨gw, 2, none⟩ (.slice zA zq zc)).setCell ⟨gw, 3, none⟩ (.int .u64 X2.R)).setCell ⟨gw, 4, none⟩ (.slice zB X2.n zb)).setCell ⟨gw, 5, none⟩ (.slice zC X2.n zd)) gO o' := (setAll_other (g := gw) nOw [.int .i64 X2.T, .int .i64 X2.C, .slice zA zq zc, .int .u64 X2.R, .slice zB X2.n zb, .slice zC X2.n zd] 0 w7).trans hO6
      have hT8 : TwoS ((((((w7.setCell ⟨gw, 0, none⟩ (.int .i64 X2.T)).setCell ⟨gw, 1, none⟩ (.int .i64 X2.C)).setCell ⟨gw, 2, none⟩ (.slice zA zq zc)).setCell ⟨gw, 3, none⟩ (.int .u64 X2.R)).setCell ⟨gw, 4, none⟩ (.slice zB X2.n zb)).setCell ⟨gw, 5, none⟩ (.slice zC X2.n zd)) gS (fun k => (o' k).take (s k)) := (setAll_other (g := gw) nSw [.int .i64 X2.T, .int .i64 X2.C, .slice zA zq zc, .int .u64 X2.R, .slice zB X2.n zb, .slice zC X2.n zd] 0 w7).trans hT7
      have hg8 : gS < ((((((w7.setCell ⟨gw, 0, none⟩ (.int .i64 X2.T)).setCell ⟨gw, 1, none⟩ (.int .i64 X2.C)).setCell ⟨gw, 2, none⟩ (.slice zA zq zc)).setCell ⟨gw, 3, none⟩ (.int .u64 X2.R)).setCell ⟨gw, 4, none⟩ (.slice zB X2.n zb)).setCell ⟨gw, 5, none⟩ (.slice zC X2.n zd)).heap.size := by rw [show ((((((w7.setCell ⟨gw, 0, none⟩ (.int .i64 X2.T)).setCell ⟨gw, 1, none⟩ (.int .i64 X2.C)).setCell ⟨gw, 2, none⟩ (.slice zA zq zc)).setCell ⟨gw, 3, none⟩ (.int .u64 X2.R)).setCell ⟨gw, 4, none⟩ (.slice zB X2.n zb)).setCell ⟨gw, 5, none⟩ (.slice zC X2.n zd)).heap.size = w7.heap.size from by simp [World.setCell]]; exact hg5
      clear a0 a1 a2 a3 a4 a5 b0 b1 b2 e0 e1 e2 e3 e4 e5 ef0 ef1 ef2 ef3 ef4 ef5 h15 h16 hbx0 hV1 hO6 hT7 hW5 hg5
      generalize ((((((w7.setCell ⟨gw, 0, none⟩ (.int .i64 X2.T)).setCell ⟨gw, 1, none⟩ (.int .i64 X2.C)).setCell ⟨gw, 2, none⟩ (.slice zA zq zc)).setCell ⟨gw, 3, none⟩ (.int .u64 X2.R)).setCell ⟨gw, 4, none⟩ (.slice zB X2.n zb)).setCell ⟨gw, 5, none⟩ (.slice zC X2.n zd)) = w8 at *
      obtain ⟨p0, -⟩ := hO8.at hz2
      obtain ⟨p1, pf1⟩ := hT8.at hz2
      simp only [strV] at p0 p1
      have hT9 := hT8.set hz2 (o' kk)
      have hO9 := hO8.other (p := ⟨gS, kk, none⟩) nSO (strV (o' kk))
      have hb9 := (Below.heap_setCell w8 ⟨gS, kk, none⟩ (strV (o' kk)) gw nwS).trans hb8'
      have hv9 := hT8.wld hv8 hl3 kk (strV (o' kk))
      have hW9 : Ext w (w8.setCell ⟨gS, kk, none⟩ (strV (o' kk))) := hW8.setCell (by simp; omega) _
      have hg9 : gS < (w8.setCell ⟨gS, kk, none⟩ (strV (o' kk))).heap.size := by simpa [World.setCell] using hg8
      have hT10 : TwoS (w8.setCell ⟨gS, kk, none⟩ (strV (o' kk))) gS (fun k => (o' k).take (updF s kk (o' kk).length k)) := by
       have e : (fun k => (o' k).take (updF s kk (o' kk).length k)) = updF (fun k => (o' k).take (s k)) kk (o' kk) := by
        funext k; unfold updF; split
        ·rename_i h; subst h; exact List.take_length
        ·rfl
       rw [e]; exact hT9
      have hos9 : ∀ k, updF s kk (o' kk).length k ≤ (o' k).length ∧ (o' k).length ≤ 50 * (j + 1) := fun k => by
       have := hos7 k
       unfold updF; split
       ·rename_i h; subst h; omega
       ·omega
      have hbx9 : BoxW (w8.setCell ⟨gS, kk, none⟩ (strV (o' kk))) gw X2 := ⟨_, hb9, hv9⟩
      rw [← HXB.out] at hbx9
      have HT := Lib.hid hT10
      have HO := Lib.hid hO9
      have HB := Lib.hid hbx9
      have HW := Lib.hid hW9
      have HG := Lib.hid hg9
      clear hT10 hO9 hbx9 hW9 hg9 hT9 hb9 hv9 hT8 hO8 hb8' hv8 hW8 hg8 HX1 HR1 HXB
      go_wp2
      go_roundw
      case rel => exact ⟨j + 1, o', updF s kk (o' kk).length, by go_num, by omega, hos9, HW.out, HG.out, HO.out, HT.out, HB.out⟩
      case measure => simp [intOf]; omega
  ·obtain rfl : j = n := by omega
   have hos1 : ∀ k, s k ≤ (o k).length := fun k => (hos k).1
   have hl0 := (hos 0).2
   have hl1 := (hos 1).2
   have hF1 : Fit (aX o s) 0 := aFit (by omega) (by omega) (by omega)
   have hF2 : Fit (aX (fun k => (o k).take (s k)) s) 0 := aFit (by simp; omega) (by simp; omega) (by omega)
   have hlC : 2 ≤ (aX (fun k => (o k).take (s k)) s).ws.length := by simp [aX]
   have hRd : ∀ k : Nat, k < 2 → doR (aX o s) ⟨8, (k : Int), 0, 0, [], []⟩ false = ⟨0, o k, false⟩ := fun k hk => aRead hk
   have hRc : ∀ k : Nat, k < 2 → doR (aX (fun k => (o k).take (s k)) s) ⟨8, (k : Int), 0, 0, [], []⟩ false = ⟨0, (o k).take (s k), false⟩ := fun k hk => aRead (o := fun k => (o k).take (s k)) hk
   have hdoX : ∀ k : Nat, k < 2 → 2 ≤ (doK (aX (fun k => (o k).take (s k)) s) 0 ⟨8, (k : Int), 0, 0, [], []⟩ false).ws.length := fun k hk => by simp [doK, diskKind, aX]
   go_wp2
   go_loopw [17] (fun iv wy => ∃ k : Nat, iv = .int .i64 (k : Int) ∧ k ≤ 2 ∧ Ext wr wy) (fun iv _ => 2 - (intOf iv).toNat)
   case atStart => exact ⟨0, rfl, by omega, Ext.refl _⟩
   case round =>
    obtain ⟨kk, rfl, hk, hx⟩ := hrel
    replace hWr := hWr.trans hx
    replace hO := hO.ext hx
    replace hT := hT.ext hx
    replace hbx := hbx.ext hx
    rcases Nat.lt_or_ge kk 2 with hk2 | hk2
    ·have hkI : (kk : Int) < 2 := by omega
     obtain ⟨bA, bq, bc, bB, bb, bC, bd, hbx0, hbxV⟩ := hbx.form
     have e0 : wr.cell? ⟨gw, 0, none⟩ = some (.int .i64 (aX o s).T) := by simp [World.cell?, hbx0]
     have e1 : wr.cell? ⟨gw, 1, none⟩ = some (.int .i64 (aX o s).C) := by simp [World.cell?, hbx0]
     have e2 : wr.cell? ⟨gw, 2, none⟩ = some (.slice bA bq bc) := by simp [World.cell?, hbx0]
     have e3 : wr.cell? ⟨gw, 3, none⟩ = some (.int .u64 (aX o s).R) := by simp [World.cell?, hbx0]
     have e4 : wr.cell? ⟨gw, 4, none⟩ = some (.slice bB (aX o s).n bb) := by simp [World.cell?, hbx0]
     have e5 : wr.cell? ⟨gw, 5, none⟩ = some (.slice bC (aX o s).n bd) := by simp [World.cell?, hbx0]
     go_wp2_with fail
     refine (do_all _ _ (aX o s) 0 ⟨8, (kk : Int), 0, 0, [], []⟩ false _ hbxV ⟨none, 0, 0, none, 0, 0, rfl, bytes_nil _, words_nil _, by simp, by simp⟩ (hF1.le_ (by simp [useM]))).mono ?_
     rintro e w6 ⟨v1, r1, rfl, hV1, hR1, hx6⟩
     rw [hRd kk hk2] at hR1
     obtain ⟨zA, zq, zc, zB, zb, zC, zd, rfl⟩ := hV1.form6
     generalize doK (aX o s) 0 ⟨8, (kk : Int), 0, 0, [], []⟩ false = X9 at *
     obtain ⟨yS, ys, yt, rfl, hyB⟩ := hR1
     simp only at hyB
     clear e0 e1 e2 e3 e4 e5 hV1
     go_upto_region 28 with (fail)
     obtain ⟨hx7, -, h19⟩ := two_boxes7 w6 (.cells #[.int .i64 X9.T, .int .i64 X9.C, .slice zA zq zc, .int .u64 X9.R, .slice zB X9.n zb, .slice zC X9.n zd] 32) (.cells #[.int .u64 0, .slice yS ys yt, .bool false] 51)
     generalize (w6.alloc (.cells #[.int .i64 X9.T, .int .i64 X9.C, .slice zA zq zc, .int .u64 X9.R, .slice zB X9.n zb, .slice zC X9.n zd] 32)).alloc (.cells #[.int .u64 0, .slice yS ys yt, .bool false] 51) = w7 at *
     generalize w6.heap.size = g18 at *
     have hE7 := hx6.trans hx7
     replace hbx0 := heap_ext hbx0 hE7
     replace hbxV := hbxV.ext hE7
     replace hWr := hWr.trans hE7
     replace hO := hO.ext hE7
     replace hT := hT.ext hE7
     replace hyB := hyB.ext hx7
     have hxx := hx.trans hE7
     clear hx6 hx7
     obtain ⟨dA, dq, dc, dB, db, dC, dd, dE, dW, dD⟩ := (show WldV w7 (.agg #[.int .i64 (aX o s).T, .int .i64 (aX o s).C, .slice bA bq bc, .int .u64 (aX o s).R, .slice bB (aX o s).n bb, .slice bC (aX o s).n bd]) (aX o s) from hbxV)
     simp only [Value.agg.injEq, Array.mk.injEq, List.cons.injEq, Value.slice.injEq, and_true, true_and] at dE
     obtain ⟨⟨rfl, rfl, rfl⟩, ⟨rfl, rfl⟩, rfl, rfl⟩ := dE
     have hX : ∀ wx, Ext w7 wx → wx.cell? ⟨gw, 0, none⟩ = some (.int .i64 (aX o s).T) ∧ wx.cell? ⟨gw, 1, none⟩ = some (.int .i64 (aX o s).C) ∧ wx.cell? ⟨gw, 2, none⟩ = some (.slice bA bq bc) ∧ wx.cell? ⟨gw, 3, none⟩ = some (.int .u64 (aX o s).R) ∧ wx.cell? ⟨gw, 4, none⟩ = some (.slice bB (aX o s).n bb) ∧ wx.cell? ⟨gw, 5, none⟩ = some (.slice bC (aX o s).n bd) := fun wx hx =>
      ⟨hx.cell (by simp [World.cell?, hbx0]), hx.cell (by simp [World.cell?, hbx0]), hx.cell (by simp [World.cell?, hbx0]), hx.cell (by simp [World.cell?, hbx0]), hx.cell (by simp [World.cell?, hbx0]), hx.cell (by simp [World.cell?, hbx0])⟩
     have HRC := Lib.hid (hRc kk hk2)
     have hl9 := hdoX kk hk2
     generalize hXc : aX (fun k => (o k).take (s k)) s = Xc at *
     generalize hX9 : doK Xc 0 ⟨8, (kk : Int), 0, 0, [], []⟩ false = X8 at *
     have HX9 := Lib.hid hX9
     have HXC := Lib.hid hXc
     clear hX9 hXc
     refine' wp_region_late 11 [(9, 122)] ⟨((some 123, [], none) :: (some 124, [0], none) :: (some 125, [], none) :: (some 126, [2], none) :: (some 127, [3], none) :: (some 128, [1, 4], none) :: (some 129, [], none) :: (some 130, [6], none) :: (some 131, [5, 7, 4], none) :: (some 122, [8], none) :: (some 132, [9], none) :: (some 133, [9], none) :: (some 20, [], none) :: (some 21, [], none) :: (none, [12, 10, 8, 0, 1, 2, 3, 4, 5, 6, 7, 8, 9, 10, 12, 13], none) :: (none, [13, 11, 14, 0, 1, 2, 3, 4, 5, 6, 7, 8, 9, 10, 11, 12, 13, 14], none) :: []), (0 :: 1 :: 0 :: 4 :: 12 :: 31 :: 0 :: 64 :: 255 :: 511 :: 1023 :: 1023 :: 0 :: 0 :: 14335 :: 32767 :: []), (true :: true :: true :: true :: false :: false :: true :: true :: false :: false :: false :: false :: true :: true :: []), [], 0⟩ 14 153 ((0, 123) :: (1, 124) :: (2, 125) :: (3, 126) :: (4, 127) :: (5, 128) :: (6, 129) :: (7, 130) :: (8, 131) :: (9, 122) :: (10, 132) :: (11, 133) :: (12, 20) :: (13, 21) :: []) ((0, 123) :: (1, 124) :: (2, 125) :: (3, 126) :: (4, 127) :: (5, 128) :: (6, 129) :: (7, 130) :: (8, 131) :: (9, 122) :: (10, 132) :: (11, 133) :: (12, 20) :: (13, 21) :: []) (.det _ :: .det _ :: .det _ :: .det _ :: Good.of (fun v w => ∃ (B0 B1 : Option Addr) (k0 k1 : Nat), v = .agg #[.int .u64 0, .slice B0 2 k0, .slice B1 2 k1] ∧ DkK w v 0 2 [((o 0).take (s 0), (s 0 : Int)), ((o 1).take (s 1), (s 1 : Int))] [([], 0), ([], 0)]) (fun v w w' h hx => let ⟨B0, B1, k0, k1, e, h1⟩ := h; ⟨B0, B1, k0, k1, e, h1.ext hx⟩) :: Good.of (fun v w => WldV w v Xc) (fun v w w' h hx => h.ext hx) :: .det _ :: .det _ :: Good.of (fun v w => ∃ v1 r1, v = .tuple #[v1, r1] ∧ WldV w v1 X8 ∧ ResV w r1 ⟨0, (o kk).take (s kk), false⟩) (fun v w w' h hx => let ⟨v1, r1, e, h1, h2⟩ := h; ⟨v1, r1, e, h1.ext hx, h2.ext hx⟩) :: Good.of (fun v w => ∃ v1 r1, v = .tuple #[v1, r1] ∧ WldV w v1 X8 ∧ ResV w r1 ⟨0, (o kk).take (s kk), false⟩) (fun v w w' h hx => let ⟨v1, r1, e, h1, h2⟩ := h; ⟨v1, r1, e, h1.ext hx, h2.ext hx⟩) :: Good.of (fun v w => WldV w v X8) (fun v w w' h hx => h.ext hx) :: Good.of (fun v w => ResV w v ⟨0, (o kk).take (s kk), false⟩) (fun v w w' h hx => h.ext hx) :: Good.box 32 #[.int .i64 0, .int .i64 0, .slice none 0 0, .int .u64 0, .slice none 0 0, .slice none 0 0] w7.heap.size :: Good.box 51 #[.int .u64 0, .slice none 0 0, .bool false] w7.heap.size :: []) (by kernel_rfl) (by kernel_rfl) (by kernel_rfl) rfl (by kernel_rfl) (by kernel_rfl) rfl (by kernel_rfl) (by kernel_rfl) (by kernel_rfl) rfl (fun _ _ _ _ _ h => h) ?hlate ?hone ?hend
     case hlate =>
      intro V hV wx hx ρ hρ hs o ho; obtain ⟨sn9, -⟩ := hs; rw [place_at hV (k := 9) rfl] at sn9; rw [place_at hV (k := 11) rfl]
      obtain rfl := Option.some.inj ho
      obtain ⟨v1, r1, e, h1, h2⟩ := sn9
      refine ⟨r1, fun w'' => ?_, h2⟩
      go_simp
     case hone =>
      intro CS frS VS hCS ha hV
      have qs8 := slot_val (t := 8) ha rfl
      simp only [List.getElem_toArray, List.getElem_cons_succ, List.getElem_cons_zero] at qs8
      have qs17 := slot_val (t := 17) ha rfl
      simp only [List.getElem_toArray, List.getElem_cons_succ, List.getElem_cons_zero] at qs17
      have HCS := Lib.hid hCS
      have HVS := Lib.hid hV
      clear ha hCS hV
      refine sure_det (js := []) (ts := [8]) (gd := none) (place_at HVS.out (k := 0) rfl) (by rw [HCS.out]; kernel_rfl) ?_ ?_
      ·intro wx hx ρ hρ hs hf; have hρc := hρ.const; have hρf := hρ.func
       obtain ⟨fx8, -⟩ := hf; rw [qs8] at fx8
       clear hs
       clear HCS HVS qs8 qs17
       refine run_plain ?_
       unfold runs
       go_simp
       exact detK.mk
      refine sure_det (js := [(0, 123)]) (ts := []) (gd := none) (place_at HVS.out (k := 1) rfl) (by rw [HCS.out]; kernel_rfl) ?_ ?_
      ·intro wx hx ρ hρ hs hf; have hρc := hρ.const; have hρf := hρ.func; obtain ⟨sn0, -⟩ := hs; rw [place_at HVS.out (k := 0) rfl] at sn0; replace sn0 : ρ (.tmp 123) = _ := sn0
       clear hf
       clear HCS HVS qs8 qs17
       refine run_plain ?_
       obtain ⟨c0, c1, c2, c3, c4, c5⟩ := hX wx hx.drawn
       unfold runs
       go_simp
       exact detK.mk
      refine sure_det (js := []) (ts := [8]) (gd := none) (place_at HVS.out (k := 2) rfl) (by rw [HCS.out]; kernel_rfl) ?_ ?_
      ·intro wx hx ρ hρ hs hf; have hρc := hρ.const; have hρf := hρ.func
       obtain ⟨fx8, -⟩ := hf; rw [qs8] at fx8
       clear hs
       clear HCS HVS qs8 qs17
       refine run_plain ?_
       unfold runs
       go_simp
       exact detK.mk
      refine sure_det (js := [(2, 125)]) (ts := []) (gd := none) (place_at HVS.out (k := 3) rfl) (by rw [HCS.out]; kernel_rfl) ?_ ?_
      ·intro wx hx ρ hρ hs hf; have hρc := hρ.const; have hρf := hρ.func; obtain ⟨sn2, -⟩ := hs; rw [place_at HVS.out (k := 2) rfl] at sn2; replace sn2 : ρ (.tmp 125) = _ := sn2
       clear hf
       clear HCS HVS qs8 qs17
       refine run_plain ?_
       obtain ⟨c0, c1, c2, c3, c4, c5⟩ := hX wx hx.drawn
       unfold runs
       go_simp
       exact detK.mk
      refine sure_op (js := [(3, 126)]) (ts := []) (gd := none) (place_at HVS.out (k := 4) rfl) (by rw [HCS.out]; kernel_rfl) ?_ ?_
      ·intro wx hx ρ hρ hs hf; have hρc := hρ.const; have hρf := hρ.func; obtain ⟨sn3, -⟩ := hs; rw [place_at HVS.out (k := 3) rfl] at sn3; replace sn3 : ρ (.tmp 126) = _ := sn3
       clear hf
       clear HCS HVS qs8 qs17
       refine run_plain ?_
       refine op_call rfl hρ Try.call39 (map_two sn3 (hρ.const _)) ?_
       refine Calls.mono (rcrash_K (ms := []) (dD.ext hx.drawn) (by simp [aX]) (ints_nil _) (by omega) (fun k hk => ?_) (fun k hk => ?_)) ?_
       (simp [aX] at hk; rcases hk with rfl | rfl <;> exact ⟨by simp [rightB]; exact hos1 _, by simp only; omega⟩)
       (simp [aX] at hk; subst hk; simp [rightB])
       rintro e w' ⟨v', rfl, h1, hx5⟩
       rw [show cutK [] (aX o s).K0 = [((o 0).take (s 0), (s 0 : Int)), ((o 1).take (s 1), (s 1 : Int))] from aCut hos1, show cutK (List.drop (aX o s).n []) (aX o s).K1 = [([], 0), ([], 0)] from aCut1] at h1
       obtain ⟨B0, B1, k0, k1, e1⟩ := h1.form
       exact ⟨_, rfl, hx5, B0, B1, k0, k1, e1, h1⟩
      refine sure_op (js := [(1, 124), (4, 127)]) (ts := []) (gd := none) (place_at HVS.out (k := 5) rfl) (by rw [HCS.out]; kernel_rfl) ?_ ?_
      ·intro wx hx ρ hρ hs hf; have hρc := hρ.const; have hρf := hρ.func; obtain ⟨sn1, sn4, -⟩ := hs; rw [place_at HVS.out (k := 1) rfl] at sn1; replace sn1 : ρ (.tmp 124) = _ := sn1; rw [place_at HVS.out (k := 4) rfl] at sn4; replace sn4 : ∃ (B0 B1 : Option Addr) (k0 k1 : Nat), (ρ (.tmp 127)) = .agg #[.int .u64 0, .slice B0 2 k0, .slice B1 2 k1] ∧ DkK wx (ρ (.tmp 127)) 0 2 [((o 0).take (s 0), (s 0 : Int)), ((o 1).take (s 1), (s 1 : Int))] [([], 0), ([], 0)] := sn4
       clear hf
       clear HCS HVS qs8 qs17
       refine run_plain ?_
       obtain ⟨B0, B1, k0, k1, e, h1⟩ := sn4
       rw [e] at h1
       unfold runs
       go_simp
       exact ⟨Ext.refl _, by rw [← HXC.out]; exact ⟨_, _, _, B0, B1, k0, k1, rfl, dW.ext hx.drawn, h1⟩⟩
      refine sure_det (js := []) (ts := [17]) (gd := none) (place_at HVS.out (k := 6) rfl) (by rw [HCS.out]; kernel_rfl) ?_ ?_
      ·intro wx hx ρ hρ hs hf; have hρc := hρ.const; have hρf := hρ.func
       obtain ⟨fx17, -⟩ := hf; rw [qs17] at fx17
       clear hs
       clear HCS HVS qs8 qs17
       refine run_plain ?_
       refine op_move rfl fx17 ?_
       exact detK.mk
      refine sure_det (js := [(6, 129)]) (ts := []) (gd := none) (place_at HVS.out (k := 7) rfl) (by rw [HCS.out]; kernel_rfl) ?_ ?_
      ·intro wx hx ρ hρ hs hf; have hρc := hρ.const; have hρf := hρ.func; obtain ⟨sn6, -⟩ := hs; rw [place_at HVS.out (k := 6) rfl] at sn6; replace sn6 : ρ (.tmp 129) = _ := sn6
       clear hf
       clear HCS HVS qs8 qs17
       refine run_plain ?_
       unfold runs
       go_simp
       exact detK.mk
      refine sure_op (js := [(5, 128), (7, 130)]) (ts := []) (gd := none) (place_at HVS.out (k := 8) rfl) (by rw [HCS.out]; kernel_rfl) ?_ ?_
      ·intro wx hx ρ hρ hs hf; have hρc := hρ.const; have hρf := hρ.func; obtain ⟨sn5, sn7, -⟩ := hs; rw [place_at HVS.out (k := 5) rfl] at sn5; replace sn5 : WldV wx (ρ (.tmp 128)) Xc := sn5; rw [place_at HVS.out (k := 7) rfl] at sn7; replace sn7 : ρ (.tmp 130) = _ := sn7
       clear hf
       clear HCS HVS qs8 qs17
       refine run_plain ?_
       refine op_call rfl hρ Try.call20 (map_four rfl (hρ.const _) sn7 (hρ.const _)) ?_
       refine Calls.mono (do_all _ _ Xc 0 ⟨8, (kk : Int), 0, 0, [], []⟩ false _ sn5 ⟨none, 0, 0, none, 0, 0, rfl, bytes_nil _, words_nil _, by simp, by simp⟩ (hF2.le_ (by simp [useM]))) ?_
       rintro e w' ⟨v1, r1, rfl, h1, h2, hx5⟩
       rw [HX9.out] at h1
       rw [HRC.out] at h2
       exact ⟨_, rfl, hx5, v1, r1, rfl, h1, h2⟩
      refine sure_op (js := [(8, 131)]) (ts := []) (gd := none) (place_at HVS.out (k := 9) rfl) (by rw [HCS.out]; kernel_rfl) ?_ ?_
      ·intro wx hx ρ hρ hs hf; have hρc := hρ.const; have hρf := hρ.func; obtain ⟨sn8, -⟩ := hs; rw [place_at HVS.out (k := 8) rfl] at sn8; replace sn8 : ∃ v1 r1, (ρ (.tmp 131)) = .tuple #[v1, r1] ∧ WldV wx v1 X8 ∧ ResV wx r1 ⟨0, (o kk).take (s kk), false⟩ := sn8
       clear hf
       clear HCS HVS qs8 qs17
       refine run_plain ?_
       refine op_move rfl rfl ?_
       exact ⟨Ext.refl _, sn8⟩
      refine sure_op (js := [(9, 122)]) (ts := []) (gd := none) (place_at HVS.out (k := 10) rfl) (by rw [HCS.out]; kernel_rfl) ?_ ?_
      ·intro wx hx ρ hρ hs hf; have hρc := hρ.const; have hρf := hρ.func; obtain ⟨sn9, -⟩ := hs; rw [place_at HVS.out (k := 9) rfl] at sn9; replace sn9 : ∃ v1 r1, (ρ (.tmp 122)) = .tuple #[v1, r1] ∧ WldV wx v1 X8 ∧ ResV wx r1 ⟨0, (o kk).take (s kk), false⟩ := sn9
       clear hf
       clear HCS HVS qs8 qs17
       refine run_plain ?_
       obtain ⟨v1, r1, e, h1, h2⟩ := sn9
       unfold runs
       go_simp
       exact ⟨Ext.refl _, h1⟩
      refine sure_op (js := [(9, 122)]) (ts := []) (gd := none) (place_at HVS.out (k := 11) rfl) (by rw [HCS.out]; kernel_rfl) ?_ ?_
      ·intro wx hx ρ hρ hs hf; have hρc := hρ.const; have hρf := hρ.func; obtain ⟨sn9, -⟩ := hs; rw [place_at HVS.out (k := 9) rfl] at sn9; replace sn9 : ∃ v1 r1, (ρ (.tmp 122)) = .tuple #[v1, r1] ∧ WldV wx v1 X8 ∧ ResV wx r1 ⟨0, (o kk).take (s kk), false⟩ := sn9
       clear hf
       clear HCS HVS qs8 qs17
       refine run_plain ?_
       obtain ⟨v1, r1, e, h1, h2⟩ := sn9
       unfold runs
       go_simp
       exact ⟨Ext.refl _, h2⟩
      refine sure_op (js := []) (ts := []) (gd := none) (place_at HVS.out (k := 12) rfl) (by rw [HCS.out]; kernel_rfl) ?_ ?_
      ·intro wx hx ρ hρ hs hf; have hρc := hρ.const; have hρf := hρ.func
       clear hs
       clear hf
       clear HCS HVS qs8 qs17
       refine run_plain ?_
       refine op_alloc rfl (Try.zeroValue32 _) ?_
       exact ⟨Ext.refl _ |>.alloc (Nat.le_refl _) _, wx.heap.size, rfl, hx.size, heap_alloc_new wx _⟩
      refine sure_op (js := []) (ts := []) (gd := none) (place_at HVS.out (k := 13) rfl) (by rw [HCS.out]; kernel_rfl) ?_ ?_
      ·intro wx hx ρ hρ hs hf; have hρc := hρ.const; have hρf := hρ.func
       clear hs
       clear hf
       clear HCS HVS qs8 qs17
       refine run_plain ?_
       refine op_alloc rfl (Try.zeroValue51 _) ?_
       exact ⟨Ext.refl _ |>.alloc (Nat.le_refl _) _, wx.heap.size, rfl, hx.size, heap_alloc_new wx _⟩
      exact trivial
     case hend =>
      intro xs wx hx hg
      have gk0 : xs 0 = _ := goods_get hg (i := 0) (j := 0) (d := 123) rfl
      have gk1 : xs 1 = _ := goods_get hg (i := 1) (j := 1) (d := 124) rfl
      have gk2 : xs 2 = _ := goods_get hg (i := 2) (j := 2) (d := 125) rfl
      have gk3 : xs 3 = _ := goods_get hg (i := 3) (j := 3) (d := 126) rfl
      have gk4 : ∃ (B0 B1 : Option Addr) (k0 k1 : Nat), (xs 4) = .agg #[.int .u64 0, .slice B0 2 k0, .slice B1 2 k1] ∧ DkK wx (xs 4) 0 2 [((o 0).take (s 0), (s 0 : Int)), ((o 1).take (s 1), (s 1 : Int))] [([], 0), ([], 0)] := goods_get hg (i := 4) (j := 4) (d := 127) rfl
      have gk5 : WldV wx (xs 5) Xc := goods_get hg (i := 5) (j := 5) (d := 128) rfl
      have gk6 : xs 6 = _ := goods_get hg (i := 6) (j := 6) (d := 129) rfl
      have gk7 : xs 7 = _ := goods_get hg (i := 7) (j := 7) (d := 130) rfl
      have gk8 : ∃ v1 r1, (xs 8) = .tuple #[v1, r1] ∧ WldV wx v1 X8 ∧ ResV wx r1 ⟨0, (o kk).take (s kk), false⟩ := goods_get hg (i := 8) (j := 8) (d := 131) rfl
      have gk9 : ∃ v1 r1, (xs 9) = .tuple #[v1, r1] ∧ WldV wx v1 X8 ∧ ResV wx r1 ⟨0, (o kk).take (s kk), false⟩ := goods_get hg (i := 9) (j := 9) (d := 122) rfl
      have gk10 : WldV wx (xs 10) X8 := goods_get hg (i := 10) (j := 10) (d := 132) rfl
      have gk11 : ResV wx (xs 11) ⟨0, (o kk).take (s kk), false⟩ := goods_get hg (i := 11) (j := 11) (d := 133) rfl
      have gk12 : boxG 32 #[.int .i64 0, .int .i64 0, .slice none 0 0, .int .u64 0, .slice none 0 0, .slice none 0 0] w7.heap.size (xs 12) wx := goods_get hg (i := 12) (j := 12) (d := 20) rfl
      have gk13 : boxG 51 #[.int .u64 0, .slice none 0 0, .bool false] w7.heap.size (xs 13) wx := goods_get hg (i := 13) (j := 13) (d := 21) rfl
      clear hg
      simp only [putAll, gk0, gk1, gk2, gk3, gk6, gk7]
      clear gk0 gk1 gk2 gk3 gk6 gk7
      generalize xs 4 = vx4 at gk4 ⊢
      generalize xs 5 = vx5 at gk5 ⊢
      generalize xs 8 = vx8 at gk8 ⊢
      generalize xs 9 = vx9 at gk9 ⊢
      generalize xs 10 = vx10 at gk10 ⊢
      generalize xs 11 = vx11 at gk11 ⊢
      generalize xs 12 = vx12 at gk12 ⊢
      generalize xs 13 = vx13 at gk13 ⊢
      clear xs
      simp only [Act.put, List.setIfInBounds_toArray, List.set_cons_zero, List.set_cons_succ, List.drop_succ_cons, List.drop_zero]
      obtain ⟨gA, rfl, hgA, hcA⟩ := gk12
      obtain ⟨gB, rfl, hgB, hcB⟩ := gk13
      obtain ⟨sA, sq, sc, sB, sb, sC, sd, rfl⟩ := gk10.form6
      obtain ⟨wS, ws, wt, rfl, hwB⟩ := gk11
      clear gk4 gk5 gk8 gk9 gk10
      simp only at hwB
      have hne : gA ≠ gB := fun e => by subst e; rw [hcA] at hcB; cases hcB
      have hE2 : Ext w7 (((((((((wx.setCell ⟨gA, 0, none⟩ (.int .i64 X8.T)).setCell ⟨gA, 1, none⟩ (.int .i64 X8.C)).setCell ⟨gA, 2, none⟩ (.slice sA sq sc)).setCell ⟨gA, 3, none⟩ (.int .u64 X8.R)).setCell ⟨gA, 4, none⟩ (.slice sB X8.n sb)).setCell ⟨gA, 5, none⟩ (.slice sC X8.n sd)).setCell ⟨gB, 0, none⟩ (.int .u64 0)).setCell ⟨gB, 1, none⟩ (.slice wS ws wt)).setCell ⟨gB, 2, none⟩ (.bool false)) := setAll_ext (g := gB) (vs := [.int .u64 0, .slice wS ws wt, .bool false]) (i := 0) (setAll_ext (g := gA) (vs := [.int .i64 X8.T, .int .i64 X8.C, .slice sA sq sc, .int .u64 X8.R, .slice sB X8.n sb, .slice sC X8.n sd]) (i := 0) hx.drawn hgA) hgB
      have hBm : (setAll gA 0 [.int .i64 X8.T, .int .i64 X8.C, .slice sA sq sc, .int .u64 X8.R, .slice sB X8.n sb, .slice sC X8.n sd] wx).heap[gB]? = _ := (setAll_other (g := gA) (Ne.symm hne) [.int .i64 X8.T, .int .i64 X8.C, .slice sA sq sc, .int .u64 X8.R, .slice sB X8.n sb, .slice sC X8.n sd] 0 wx).trans hcB
      have hfB : (((((((((wx.setCell ⟨gA, 0, none⟩ (.int .i64 X8.T)).setCell ⟨gA, 1, none⟩ (.int .i64 X8.C)).setCell ⟨gA, 2, none⟩ (.slice sA sq sc)).setCell ⟨gA, 3, none⟩ (.int .u64 X8.R)).setCell ⟨gA, 4, none⟩ (.slice sB X8.n sb)).setCell ⟨gA, 5, none⟩ (.slice sC X8.n sd)).setCell ⟨gB, 0, none⟩ (.int .u64 0)).setCell ⟨gB, 1, none⟩ (.slice wS ws wt)).setCell ⟨gB, 2, none⟩ (.bool false)).heap[gB]? = some (.cells #[.int .u64 0, .slice wS ws wt, .bool false] 51 (0, 0)) := setAll_all (vs := [.int .u64 0, .slice wS ws wt, .bool false]) hBm rfl
      have hwB2 := BytesV.but (BytesV.but hwB (But.all gA [.int .i64 X8.T, .int .i64 X8.C, .slice sA sq sc, .int .u64 X8.R, .slice sB X8.n sb, .slice sC X8.n sd] 0 wx) hcA rfl) (But.all gB [.int .u64 0, .slice wS ws wt, .bool false] 0 _) hBm rfl
      change BytesV (((((((((wx.setCell ⟨gA, 0, none⟩ (.int .i64 X8.T)).setCell ⟨gA, 1, none⟩ (.int .i64 X8.C)).setCell ⟨gA, 2, none⟩ (.slice sA sq sc)).setCell ⟨gA, 3, none⟩ (.int .u64 X8.R)).setCell ⟨gA, 4, none⟩ (.slice sB X8.n sb)).setCell ⟨gA, 5, none⟩ (.slice sC X8.n sd)).setCell ⟨gB, 0, none⟩ (.int .u64 0)).setCell ⟨gB, 1, none⟩ (.slice wS ws wt)).setCell ⟨gB, 2, none⟩ (.bool false)) _ _ _ _ at hwB2
      have a0 : wx.cell? ⟨gA, 0, none⟩ = some (.int .i64 0) := by simp [World.cell?, hcA]
      have af0 : wx.frozen? ⟨gA, 0, none⟩ = false := by simp [World.frozen?, hcA]
      have a1 : wx.cell? ⟨gA, 1, none⟩ = some (.int .i64 0) := by simp [World.cell?, hcA]
      have af1 : wx.frozen? ⟨gA, 1, none⟩ = false := by simp [World.frozen?, hcA]
      have a2 : wx.cell? ⟨gA, 2, none⟩ = some (.slice none 0 0) := by simp [World.cell?, hcA]
      have af2 : wx.frozen? ⟨gA, 2, none⟩ = false := by simp [World.frozen?, hcA]
      have a3 : wx.cell? ⟨gA, 3, none⟩ = some (.int .u64 0) := by simp [World.cell?, hcA]
      have af3 : wx.frozen? ⟨gA, 3, none⟩ = false := by simp [World.frozen?, hcA]
      have a4 : wx.cell? ⟨gA, 4, none⟩ = some (.slice none 0 0) := by simp [World.cell?, hcA]
      have af4 : wx.frozen? ⟨gA, 4, none⟩ = false := by simp [World.frozen?, hcA]
      have a5 : wx.cell? ⟨gA, 5, none⟩ = some (.slice none 0 0) := by simp [World.cell?, hcA]
      have af5 : wx.frozen? ⟨gA, 5, none⟩ = false := by simp [World.frozen?, hcA]
      have b0 : wx.cell? ⟨gB, 0, none⟩ = some (.int .u64 0) := by simp [World.cell?, hcB]
      have bf0 : wx.frozen? ⟨gB, 0, none⟩ = false := by simp [World.frozen?, hcB]
      have b1 : wx.cell? ⟨gB, 1, none⟩ = some (.slice none 0 0) := by simp [World.cell?, hcB]
      have bf1 : wx.frozen? ⟨gB, 1, none⟩ = false := by simp [World.frozen?, hcB]
      have b2 : wx.cell? ⟨gB, 2, none⟩ = some (.bool false) := by simp [World.cell?, hcB]
      have bf2 : wx.frozen? ⟨gB, 2, none⟩ = false := by simp [World.frozen?, hcB]
      clear hX
      go_upto_region 29 with (fail)
      generalize (((((((((wx.setCell ⟨gA, 0, none⟩ (.int .i64 X8.T)).setCell ⟨gA, 1, none⟩ (.int .i64 X8.C)).setCell ⟨gA, 2, none⟩ (.slice sA sq sc)).setCell ⟨gA, 3, none⟩ (.int .u64 X8.R)).setCell ⟨gA, 4, none⟩ (.slice sB X8.n sb)).setCell ⟨gA, 5, none⟩ (.slice sC X8.n sd)).setCell ⟨gB, 0, none⟩ (.int .u64 0)).setCell ⟨gB, 1, none⟩ (.slice wS ws wt)).setCell ⟨gB, 2, none⟩ (.bool false)) = wf at *
      clear a0 af0 a1 af1 a2 af2 a3 af3 a4 af4 a5 af5 b0 bf0 b1 bf1 b2 bf2 hBm hcA hcB hwB hx
      have h19f := heap_ext h19 hE2
      have hyF := hyB.ext hE2
      obtain ⟨o0, -⟩ := (hO.ext hE2).at hk2
      obtain ⟨t0, -⟩ := (hT.ext hE2).at hk2
      have hWf := hWr.trans hE2
      have hxf := hxx.trans hE2
      clear h19 hyB hO hT hWr hxx hbx0 hbxV hE2 dW dD hl9 HX9 HXC HRC hF2 hlC
      have hX : ∀ wx, Ext wf wx → wx.cell? ⟨g18 + 1, 1, none⟩ = some (.slice yS ys yt) ∧ wx.cell? ⟨gB, 1, none⟩ = some (.slice wS ws wt) ∧ wx.cell? ⟨gO, kk, none⟩ = some (strV (o kk)) ∧ wx.cell? ⟨gS, kk, none⟩ = some (strV ((o kk).take (s kk))) := fun wx hx =>
       ⟨hx.cell (by simp [World.cell?, h19f]), hx.cell (by simp [World.cell?, hfB]), hx.cell o0, hx.cell t0⟩
      clear o0 t0 h19f hfB
      simp only [strV] at hX
      refine' wp_region_sure_all ⟨((some 134, [], none) :: (some 135, [0], none) :: (some 136, [1], none) :: (some 137, [], none) :: (some 138, [], none) :: (some 139, [3, 4], none) :: (some 140, [5], none) :: (some 141, [2, 6], none) :: (some 142, [7], none) :: (some 143, [8], some (8, false)) :: (some 144, [9, 8], some (8, false)) :: (some 145, [10, 8], some (8, false)) :: (some 146, [8], some (8, false)) :: (some 147, [8], some (8, false)) :: (some 148, [12, 13, 8], some (8, false)) :: (some 149, [14, 8], some (8, false)) :: (some 150, [11, 15, 8], some (8, false)) :: (some 151, [8, 16], none) :: []), (0 :: 1 :: 3 :: 0 :: 0 :: 24 :: 56 :: 127 :: 255 :: 511 :: 1023 :: 2047 :: 511 :: 511 :: 12799 :: 29183 :: 65535 :: 131071 :: []), (true :: true :: true :: true :: true :: true :: true :: true :: true :: true :: true :: true :: true :: true :: true :: true :: true :: true :: []), [], 0⟩ 18 153 ((0, 134) :: (1, 135) :: (2, 136) :: (3, 137) :: (4, 138) :: (5, 139) :: (6, 140) :: (7, 141) :: (8, 142) :: (9, 143) :: (10, 144) :: (11, 145) :: (12, 146) :: (13, 147) :: (14, 148) :: (15, 149) :: (16, 150) :: (17, 151) :: []) ((0, 134) :: (1, 135) :: (2, 136) :: (3, 137) :: (4, 138) :: (5, 139) :: (6, 140) :: (7, 141) :: (8, 142) :: (9, 143) :: (10, 144) :: (11, 145) :: (12, 146) :: (13, 147) :: (14, 148) :: (15, 149) :: (16, 150) :: (17, 151) :: []) (.det _ :: .det _ :: .det _ :: .det _ :: .det _ :: .det _ :: .det _ :: .det _ :: .det _ :: .det _ :: .det _ :: .det _ :: .det _ :: .det _ :: .det _ :: .det _ :: .det _ :: .det _ :: []) (by kernel_rfl) (by kernel_rfl) (by kernel_rfl) rfl (by kernel_rfl) (by kernel_rfl) rfl (by kernel_rfl) ?hone ?hend
      case hone =>
       intro CS frS VS hCS ha hV
       have qs9 := slot_val (t := 9) ha rfl
       simp only [List.getElem_toArray, List.getElem_cons_succ, List.getElem_cons_zero] at qs9
       have qs10 := slot_val (t := 10) ha rfl
       simp only [List.getElem_toArray, List.getElem_cons_succ, List.getElem_cons_zero] at qs10
       have qs17 := slot_val (t := 17) ha rfl
       simp only [List.getElem_toArray, List.getElem_cons_succ, List.getElem_cons_zero] at qs17
       have qs19 := slot_val (t := 19) ha rfl
       simp only [List.getElem_toArray, List.getElem_cons_succ, List.getElem_cons_zero] at qs19
       have qs21 := slot_val (t := 21) ha rfl
       simp only [List.getElem_toArray, List.getElem_cons_succ, List.getElem_cons_zero] at qs21
       have HCS := Lib.hid hCS
       have HVS := Lib.hid hV
       clear ha hCS hV
       refine sure_det (js := []) (ts := [19]) (gd := none) (place_at HVS.out (k := 0) rfl) (by rw [HCS.out]; kernel_rfl) ?_ ?_
       ·intro wx hx ρ hρ hs hf; have hρc := hρ.const; have hρf := hρ.func
        obtain ⟨fx19, -⟩ := hf; rw [qs19] at fx19
        clear hs
        clear HCS HVS qs9 qs10 qs17 qs19 qs21
        refine run_plain ?_
        unfold runs
        go_simp
        exact detK.mk
       refine sure_det (js := [(0, 134)]) (ts := []) (gd := none) (place_at HVS.out (k := 1) rfl) (by rw [HCS.out]; kernel_rfl) ?_ ?_
       ·intro wx hx ρ hρ hs hf; have hρc := hρ.const; have hρf := hρ.func; obtain ⟨sn0, -⟩ := hs; rw [place_at HVS.out (k := 0) rfl] at sn0; replace sn0 : ρ (.tmp 134) = _ := sn0
        clear hf
        clear HCS HVS qs9 qs10 qs17 qs19 qs21
        refine run_plain ?_
        obtain ⟨p0, p1, p2, p3⟩ := hX wx hx.drawn
        unfold runs
        go_simp
        exact detK.mk
       refine sure_det (js := [(1, 135)]) (ts := []) (gd := none) (place_at HVS.out (k := 2) rfl) (by rw [HCS.out]; kernel_rfl) ?_ ?_
       ·intro wx hx ρ hρ hs hf; have hρc := hρ.const; have hρf := hρ.func; obtain ⟨sn1, -⟩ := hs; rw [place_at HVS.out (k := 1) rfl] at sn1; replace sn1 : ρ (.tmp 135) = _ := sn1
        clear hf
        clear HCS HVS qs9 qs10 qs17 qs19 qs21
        refine run_plain ?_
        have q1 := run_convert_bytesV (P := Try.prog) (hyF.ext hx.drawn) Try.underlying40 Try.underlying5 Try.underlying9
        unfold runs
        go_simp
        exact detK.mk
       refine sure_det (js := []) (ts := [9]) (gd := none) (place_at HVS.out (k := 3) rfl) (by rw [HCS.out]; kernel_rfl) ?_ ?_
       ·intro wx hx ρ hρ hs hf; have hρc := hρ.const; have hρf := hρ.func
        obtain ⟨fx9, -⟩ := hf; rw [qs9] at fx9
        clear hs
        clear HCS HVS qs9 qs10 qs17 qs19 qs21
        refine run_plain ?_
        refine op_move rfl fx9 ?_
        exact detK.mk
       refine sure_det (js := []) (ts := [17]) (gd := none) (place_at HVS.out (k := 4) rfl) (by rw [HCS.out]; kernel_rfl) ?_ ?_
       ·intro wx hx ρ hρ hs hf; have hρc := hρ.const; have hρf := hρ.func
        obtain ⟨fx17, -⟩ := hf; rw [qs17] at fx17
        clear hs
        clear HCS HVS qs9 qs10 qs17 qs19 qs21
        refine run_plain ?_
        refine op_move rfl fx17 ?_
        exact detK.mk
       refine sure_det (js := [(3, 137), (4, 138)]) (ts := []) (gd := none) (place_at HVS.out (k := 5) rfl) (by rw [HCS.out]; kernel_rfl) ?_ ?_
       ·intro wx hx ρ hρ hs hf; have hρc := hρ.const; have hρf := hρ.func; obtain ⟨sn3, sn4, -⟩ := hs; rw [place_at HVS.out (k := 3) rfl] at sn3; replace sn3 : ρ (.tmp 137) = _ := sn3; rw [place_at HVS.out (k := 4) rfl] at sn4; replace sn4 : ρ (.tmp 138) = _ := sn4
        clear hf
        clear HCS HVS qs9 qs10 qs17 qs19 qs21
        refine run_plain ?_
        unfold runs
        go_simp
        exact detK.mk
       refine sure_det (js := [(5, 139)]) (ts := []) (gd := none) (place_at HVS.out (k := 6) rfl) (by rw [HCS.out]; kernel_rfl) ?_ ?_
       ·intro wx hx ρ hρ hs hf; have hρc := hρ.const; have hρf := hρ.func; obtain ⟨sn5, -⟩ := hs; rw [place_at HVS.out (k := 5) rfl] at sn5; replace sn5 : ρ (.tmp 139) = _ := sn5
        clear hf
        clear HCS HVS qs9 qs10 qs17 qs19 qs21
        refine run_plain ?_
        obtain ⟨p0, p1, p2, p3⟩ := hX wx hx.drawn
        unfold runs
        go_simp
        exact detK.mk
       refine sure_det (js := [(2, 136), (6, 140)]) (ts := []) (gd := none) (place_at HVS.out (k := 7) rfl) (by rw [HCS.out]; kernel_rfl) ?_ ?_
       ·intro wx hx ρ hρ hs hf; have hρc := hρ.const; have hρf := hρ.func; obtain ⟨sn2, sn6, -⟩ := hs; rw [place_at HVS.out (k := 2) rfl] at sn2; replace sn2 : ρ (.tmp 136) = _ := sn2; rw [place_at HVS.out (k := 6) rfl] at sn6; replace sn6 : ρ (.tmp 140) = _ := sn6
        clear hf
        clear HCS HVS qs9 qs10 qs17 qs19 qs21
        refine run_plain ?_
        unfold runs
        go_simp
        exact detK.mk
       refine sure_det (js := [(7, 141)]) (ts := []) (gd := none) (place_at HVS.out (k := 8) rfl) (by rw [HCS.out]; kernel_rfl) ?_ ?_
       ·intro wx hx ρ hρ hs hf; have hρc := hρ.const; have hρf := hρ.func; obtain ⟨sn7, -⟩ := hs; rw [place_at HVS.out (k := 7) rfl] at sn7; replace sn7 : ρ (.tmp 141) = _ := sn7
        clear hf
        clear HCS HVS qs9 qs10 qs17 qs19 qs21
        refine run_plain ?_
        refine op_move rfl sn7 ?_
        exact detK.mk
       refine sure_det (js := [(8, 142)]) (ts := [21]) (gd := (some (142, false))) (place_at HVS.out (k := 9) rfl) (by rw [HCS.out]; kernel_rfl) ?_ ?_
       ·intro wx hx ρ hρ hs hf; have hρc := hρ.const; have hρf := hρ.func; obtain ⟨sn8, -⟩ := hs
        obtain ⟨fx21, -⟩ := hf; rw [qs21] at fx21; rw [place_at HVS.out (k := 8) rfl] at sn8; replace sn8 : ρ (.tmp 142) = _ := sn8
        clear HCS HVS qs9 qs10 qs17 qs19 qs21
        first
         | (refine run_passed sn8 ?_; exact detK.mk)
         | (refine run_undef sn8 ?_; exact detK.mk)
         | (refine run_guarded sn8 ?_; unfold runs; go_simp; exact detK.mk)
       refine sure_det (js := [(9, 143), (8, 142)]) (ts := []) (gd := (some (142, false))) (place_at HVS.out (k := 10) rfl) (by rw [HCS.out]; kernel_rfl) ?_ ?_
       ·intro wx hx ρ hρ hs hf; have hρc := hρ.const; have hρf := hρ.func; obtain ⟨sn9, sn8, -⟩ := hs; rw [place_at HVS.out (k := 9) rfl] at sn9; replace sn9 : ρ (.tmp 143) = _ := sn9; rw [place_at HVS.out (k := 8) rfl] at sn8; replace sn8 : ρ (.tmp 142) = _ := sn8
        clear hf
        clear HCS HVS qs9 qs10 qs17 qs19 qs21
        first
         | (refine run_passed sn8 ?_; exact detK.mk)
         | (refine run_undef sn8 ?_; exact detK.mk)
         | (refine run_guarded sn8 ?_; obtain ⟨p0, p1, p2, p3⟩ := hX wx hx.drawn; unfold runs; go_simp; exact detK.mk)
       refine sure_det (js := [(10, 144), (8, 142)]) (ts := []) (gd := (some (142, false))) (place_at HVS.out (k := 11) rfl) (by rw [HCS.out]; kernel_rfl) ?_ ?_
       ·intro wx hx ρ hρ hs hf; have hρc := hρ.const; have hρf := hρ.func; obtain ⟨sn10, sn8, -⟩ := hs; rw [place_at HVS.out (k := 10) rfl] at sn10; replace sn10 : ρ (.tmp 144) = _ := sn10; rw [place_at HVS.out (k := 8) rfl] at sn8; replace sn8 : ρ (.tmp 142) = _ := sn8
        clear hf
        clear HCS HVS qs9 qs10 qs17 qs19 qs21
        first
         | (refine run_passed sn8 ?_; exact detK.mk)
         | (refine run_undef sn8 ?_; exact detK.mk)
         | (refine run_guarded sn8 ?_; have q1 := run_convert_bytesV (P := Try.prog) (hwB2.ext hx.drawn) Try.underlying40 Try.underlying5 Try.underlying9; unfold runs; go_simp; exact detK.mk)
       refine sure_det (js := [(8, 142)]) (ts := [10]) (gd := (some (142, false))) (place_at HVS.out (k := 12) rfl) (by rw [HCS.out]; kernel_rfl) ?_ ?_
       ·intro wx hx ρ hρ hs hf; have hρc := hρ.const; have hρf := hρ.func; obtain ⟨sn8, -⟩ := hs
        obtain ⟨fx10, -⟩ := hf; rw [qs10] at fx10; rw [place_at HVS.out (k := 8) rfl] at sn8; replace sn8 : ρ (.tmp 142) = _ := sn8
        clear HCS HVS qs9 qs10 qs17 qs19 qs21
        first
         | (refine run_passed sn8 ?_; exact detK.mk)
         | (refine run_undef sn8 ?_; exact detK.mk)
         | (refine run_guarded sn8 ?_; refine op_move rfl fx10 ?_; exact detK.mk)
       refine sure_det (js := [(8, 142)]) (ts := [17]) (gd := (some (142, false))) (place_at HVS.out (k := 13) rfl) (by rw [HCS.out]; kernel_rfl) ?_ ?_
       ·intro wx hx ρ hρ hs hf; have hρc := hρ.const; have hρf := hρ.func; obtain ⟨sn8, -⟩ := hs
        obtain ⟨fx17, -⟩ := hf; rw [qs17] at fx17; rw [place_at HVS.out (k := 8) rfl] at sn8; replace sn8 : ρ (.tmp 142) = _ := sn8
        clear HCS HVS qs9 qs10 qs17 qs19 qs21
        first
         | (refine run_passed sn8 ?_; exact detK.mk)
         | (refine run_undef sn8 ?_; exact detK.mk)
         | (refine run_guarded sn8 ?_; refine op_move rfl fx17 ?_; exact detK.mk)
       refine sure_det (js := [(12, 146), (13, 147), (8, 142)]) (ts := []) (gd := (some (142, false))) (place_at HVS.out (k := 14) rfl) (by rw [HCS.out]; kernel_rfl) ?_ ?_
       ·intro wx hx ρ hρ hs hf; have hρc := hρ.const; have hρf := hρ.func; obtain ⟨sn12, sn13, sn8, -⟩ := hs; rw [place_at HVS.out (k := 12) rfl] at sn12; replace sn12 : ρ (.tmp 146) = _ := sn12; rw [place_at HVS.out (k := 13) rfl] at sn13; replace sn13 : ρ (.tmp 147) = _ := sn13; rw [place_at HVS.out (k := 8) rfl] at sn8; replace sn8 : ρ (.tmp 142) = _ := sn8
        clear hf
        clear HCS HVS qs9 qs10 qs17 qs19 qs21
        first
         | (refine run_passed sn8 ?_; exact detK.mk)
         | (refine run_undef sn8 ?_; exact detK.mk)
         | (refine run_guarded sn8 ?_; unfold runs; go_simp; exact detK.mk)
       refine sure_det (js := [(14, 148), (8, 142)]) (ts := []) (gd := (some (142, false))) (place_at HVS.out (k := 15) rfl) (by rw [HCS.out]; kernel_rfl) ?_ ?_
       ·intro wx hx ρ hρ hs hf; have hρc := hρ.const; have hρf := hρ.func; obtain ⟨sn14, sn8, -⟩ := hs; rw [place_at HVS.out (k := 14) rfl] at sn14; replace sn14 : ρ (.tmp 148) = _ := sn14; rw [place_at HVS.out (k := 8) rfl] at sn8; replace sn8 : ρ (.tmp 142) = _ := sn8
        clear hf
        clear HCS HVS qs9 qs10 qs17 qs19 qs21
        first
         | (refine run_passed sn8 ?_; exact detK.mk)
         | (refine run_undef sn8 ?_; exact detK.mk)
         | (refine run_guarded sn8 ?_; obtain ⟨p0, p1, p2, p3⟩ := hX wx hx.drawn; unfold runs; go_simp; exact detK.mk)
       refine sure_det (js := [(11, 145), (15, 149), (8, 142)]) (ts := []) (gd := (some (142, false))) (place_at HVS.out (k := 16) rfl) (by rw [HCS.out]; kernel_rfl) ?_ ?_
       ·intro wx hx ρ hρ hs hf; have hρc := hρ.const; have hρf := hρ.func; obtain ⟨sn11, sn15, sn8, -⟩ := hs; rw [place_at HVS.out (k := 11) rfl] at sn11; replace sn11 : ρ (.tmp 145) = _ := sn11; rw [place_at HVS.out (k := 15) rfl] at sn15; replace sn15 : ρ (.tmp 149) = _ := sn15; rw [place_at HVS.out (k := 8) rfl] at sn8; replace sn8 : ρ (.tmp 142) = _ := sn8
        clear hf
        clear HCS HVS qs9 qs10 qs17 qs19 qs21
        first
         | (refine run_passed sn8 ?_; exact detK.mk)
         | (refine run_undef sn8 ?_; exact detK.mk)
         | (refine run_guarded sn8 ?_; unfold runs; go_simp; exact detK.mk)
       refine sure_det (js := [(8, 142), (16, 150)]) (ts := []) (gd := none) (place_at HVS.out (k := 17) rfl) (by rw [HCS.out]; kernel_rfl) ?_ ?_
       ·intro wx hx ρ hρ hs hf; have hρc := hρ.const; have hρf := hρ.func; obtain ⟨sn8, sn16, -⟩ := hs; rw [place_at HVS.out (k := 8) rfl] at sn8; replace sn8 : ρ (.tmp 142) = _ := sn8; rw [place_at HVS.out (k := 16) rfl] at sn16; replace sn16 : ρ (.tmp 150) = _ := sn16
        clear hf
        clear HCS HVS qs9 qs10 qs17 qs19 qs21
        refine run_plain ?_
        first | refine op_pick_t rfl sn8 (hρ.const _) ?_ | refine op_pick_f rfl sn8 sn16 ?_
        exact detK.mk
       exact trivial
      case hend =>
       intro xs wx hx hg
       have gk0 : xs 0 = _ := goods_get hg (i := 0) (j := 0) (d := 134) rfl
       have gk1 : xs 1 = _ := goods_get hg (i := 1) (j := 1) (d := 135) rfl
       have gk2 : xs 2 = _ := goods_get hg (i := 2) (j := 2) (d := 136) rfl
       have gk3 : xs 3 = _ := goods_get hg (i := 3) (j := 3) (d := 137) rfl
       have gk4 : xs 4 = _ := goods_get hg (i := 4) (j := 4) (d := 138) rfl
       have gk5 : xs 5 = _ := goods_get hg (i := 5) (j := 5) (d := 139) rfl
       have gk6 : xs 6 = _ := goods_get hg (i := 6) (j := 6) (d := 140) rfl
       have gk7 : xs 7 = _ := goods_get hg (i := 7) (j := 7) (d := 141) rfl
       have gk8 : xs 8 = _ := goods_get hg (i := 8) (j := 8) (d := 142) rfl
       have gk9 : xs 9 = _ := goods_get hg (i := 9) (j := 9) (d := 143) rfl
       have gk10 : xs 10 = _ := goods_get hg (i := 10) (j := 10) (d := 144) rfl
       have gk11 : xs 11 = _ := goods_get hg (i := 11) (j := 11) (d := 145) rfl
       have gk12 : xs 12 = _ := goods_get hg (i := 12) (j := 12) (d := 146) rfl
       have gk13 : xs 13 = _ := goods_get hg (i := 13) (j := 13) (d := 147) rfl
       have gk14 : xs 14 = _ := goods_get hg (i := 14) (j := 14) (d := 148) rfl
       have gk15 : xs 15 = _ := goods_get hg (i := 15) (j := 15) (d := 149) rfl
       have gk16 : xs 16 = _ := goods_get hg (i := 16) (j := 16) (d := 150) rfl
       have gk17 : xs 17 = _ := goods_get hg (i := 17) (j := 17) (d := 151) rfl
       clear hg
       simp only [putAll, gk0, gk1, gk2, gk3, gk4, gk5, gk6, gk7, gk8, gk9, gk10, gk11, gk12, gk13, gk14, gk15, gk16, gk17]
       clear gk0 gk1 gk2 gk3 gk4 gk5 gk6 gk7 gk8 gk9 gk10 gk11 gk12 gk13 gk14 gk15 gk16 gk17
       clear xs
       simp only [Act.put, List.setIfInBounds_toArray, List.set_cons_zero, List.set_cons_succ]
       clear hX
       go_wp2
       go_roundw
       case rel => exact ⟨kk + 1, by go_num, by omega, hxf.trans hx.drawn⟩
       case measure => simp [intOf]; omega
    ·obtain rfl : kk = 2 := by omega
     go_wp2
     go_ret
     exact ⟨rfl, hWr⟩
set_option maxRecDepth 100000 in
theorem AccessStreams_lifted (os : Os) (started : os.Started) (H : Type) (enc : TypeId × Value → H) :
  ReturnsInHanded {} Try.checked os 10 .any (Rows.accessStreamsSpec.pre6 enc Try.prog Try.f10 Rows.accessStreamsRow.domain false) (Rows.accessStreamsSpec.post enc Try.prog Try.f10 false true false false) := by
 refine law_row os started H enc Rows.accessStreamsSpec rfl (fun ds h => by
  match ds, h with
  | [_, _, _], _ => rfl) (by kernel_rfl) Try.func10 rfl
  (by rw [Try.params10]; intro t ht; simp at ht; rcases ht with rfl | rfl | rfl <;> exact ⟨by kernel_rfl, of_decide_eq_true (by kernel_rfl)⟩)
  (ChangeSpec.witness6 (enc := enc) (C := Try.checked) false ⟨#[], #[.slice none 0 0, .slice none 0 0, .slice none 0 0], []⟩ 8 (by kernel_rfl) (by kernel_rfl) (by kernel_rfl) (by kernel_rfl)) ?_
 intro W base args ds ps hval hA hlt
 rw [Try.params10] at hA hval
 obtain ⟨v0, v1, v2, d0, d1, d2, p0, p1, p2, rfl, rfl, rfl, h0, h1, h2⟩ := trodAll_three hA
 obtain ⟨L, n, lc, ls, rfl, hL⟩ := open_texts_arg (hval 0 _ v0 rfl rfl) h0
 obtain ⟨F, fn, fc, bs, rfl, hS, hfn⟩ := open_bools_arg (hval 1 _ v1 rfl rfl) h1
 obtain ⟨M, mn, mc, ms, rfl, hM⟩ := open_bytes1 (hval 2 _ v2 rfl rfl) h2
 exact ast_walk L n lc ls F fn fc bs M mn mc ms W hL hS hfn hM
theorem AccessStreams_holds : Rows.AccessStreamsSaid :=
 OpenClaim.holds_of_wide 10 Try.f10 rfl rfl rfl rfl rfl rfl rfl ⟨rfl, rfl, rfl, rfl, rfl⟩ rfl rfl rfl rfl rfl (by kernel_rfl) Try.func10 (by kernel_rfl)
  (of_decide_eq_true (by kernel_rfl)) (by unfold Func.isWrapper; rw [if_neg (of_decide_eq_false (by kernel_rfl))]; exact ⟨rfl, rfl⟩)
  (fun os started H enc _ => AccessStreams_lifted os started H enc)
#print axioms AccessStreams_holds
end Go.Proofs.Ytennnhfaghdeoaa
