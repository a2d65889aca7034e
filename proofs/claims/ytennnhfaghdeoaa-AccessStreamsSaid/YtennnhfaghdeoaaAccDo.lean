import Derived.Test.YtennnhfaghdeoaaAccStr
import Derived.Test.YtennnhfaghdeoaaAccWords
namespace Go.Proofs.Ytennnhfaghdeoaa
open Go.RowKit

/-! access.Do. -/
set_option maxRecDepth 100000 in
set_option maxHeartbeats 1000000 in
theorem adisk_any (k : Int) (w : World) : Calls Try.prog 36 #[.int .i64 k] w fun e w' => e = .returned (.bool (diskKind k)) ∧ w = w' := by
 by_cases h5 : 5 ≤ k
 ·by_cases h12 : k ≤ 12
  ·rw [show diskKind k = true by simp [diskKind, h5, h12]]
   go_enter Try.func36, Try.ntmps36
   go_wp2
   go_ret
   exact ⟨rfl, rfl⟩
  ·rw [show diskKind k = false by simp [diskKind, h12]]
   go_enter Try.func36, Try.ntmps36
   go_wp2
   go_ret
   exact ⟨rfl, rfl⟩
 ·rw [show diskKind k = false by simp [diskKind, h5]]
  go_enter Try.func36, Try.ntmps36
  go_wp2
  go_ret
  exact ⟨rfl, rfl⟩
theorem streams_any (RN n : Nat) (A0 A1 : Option Addr) (c0 c1 : Nat) (K0 K1 : List Key) (me k ce a b : Int) (D : Option Addr) (m cd : Nat) (B : Option Addr) (q2 cb : Nat) (dat : List UInt8) (wd : List Int) (w : World) (hd : DkK w (.agg #[.int .u64 (RN : Int), .slice A0 n c0, .slice A1 n c1]) (RN : Int) n K0 K1) (hR : RN < 18446744073709551616) (hpos : 0 < n) (hn : n ≤ 64) (hB : BytesV w D m cd dat)
  (hm0 : ∀ x ∈ K0, x.1.length + m ≤ 65536) (hm1 : ∀ x ∈ K1, x.1.length + m ≤ 65536) (hk : diskKind k = true) :
  Calls Try.prog 79 #[.agg #[.int .u64 (RN : Int), .slice A0 n c0, .slice A1 n c1], .int .i64 me, .agg #[.int .i64 k, .int .i64 ce, .int .u64 a, .int .u64 b, .slice D m cd, .slice B q2 cb]] w (StrPost (strRoot (RN : Int) ⟨k, ce, a, b, dat, wd⟩) n (strK0 (RN : Int) n me ⟨k, ce, a, b, dat, wd⟩ K0) (strK1 (RN : Int) n me ⟨k, ce, a, b, dat, wd⟩ K1) (strR (RN : Int) ⟨k, ce, a, b, dat, wd⟩ K0 K1) w) := by
 have h8 : k = 5 ∨ k = 6 ∨ k = 7 ∨ k = 8 ∨ k = 9 ∨ k = 10 ∨ k = 11 ∨ k = 12 := by
  simp only [diskKind, Bool.and_eq_true, decide_eq_true_eq] at hk; omega
 rcases h8 with rfl | rfl | rfl | rfl | rfl | rfl | rfl | rfl
 ·exact streams_5 RN n A0 A1 c0 c1 K0 K1 me ce a b D m cd B q2 cb dat wd w hd hR hpos hn hB hm0 hm1
 ·exact streams_6 RN n A0 A1 c0 c1 K0 K1 me ce a b D m cd B q2 cb dat wd w hd hR hpos hn hB hm0 hm1
 ·exact streams_7 RN n A0 A1 c0 c1 K0 K1 me ce a b D m cd B q2 cb dat wd w hd hR hpos hn hB hm0 hm1
 ·exact streams_8 RN n A0 A1 c0 c1 K0 K1 me ce a b D m cd B q2 cb dat wd w hd hR hpos hn hB hm0 hm1
 ·exact streams_9 RN n A0 A1 c0 c1 K0 K1 me ce a b D m cd B q2 cb dat wd w hd hR hpos hn hB hm0 hm1
 ·exact streams_10 RN n A0 A1 c0 c1 K0 K1 me ce a b D m cd B q2 cb dat wd w hd hR hpos hn hB hm0 hm1
 ·exact streams_11 RN n A0 A1 c0 c1 K0 K1 me ce a b D m cd B q2 cb dat wd w hd hR hpos hn hB hm0 hm1
 ·exact streams_12 RN n A0 A1 c0 c1 K0 K1 me ce a b D m cd B q2 cb dat wd w hd hR hpos hn hB hm0 hm1
set_option maxRecDepth 100000 in
set_option maxHeartbeats 1000000 in
theorem do_fail (T C : Int) (A : Option Addr) (q c : Nat) (ws : List Int) (RN n : Nat) (A0 A1 : Option Addr) (c0 c1 : Nat) (K0 K1 : List Key) (me k ce a b : Int) (D : Option Addr) (m cd : Nat) (B : Option Addr) (q2 cb : Nat) (dat : List UInt8) (wd : List Int) (w : World) (hA : WordsV w A q c ws) (hd : DkK w (.agg #[.int .u64 (RN : Int), .slice A0 n c0, .slice A1 n c1]) (RN : Int) n K0 K1)
  (hB : BytesV w D m cd dat) (hwd : WordsV w B q2 cb wd) (ha : 0 ≤ a ∧ a < 18446744073709551616) (hb : 0 ≤ b ∧ b < 18446744073709551616) {mF : Nat} (hF : Fit ⟨T, C, ws, RN, n, K0, K1⟩ mF) (hk : diskKind k = true) :
  Calls Try.prog 20 #[.agg #[.int .i64 T, .int .i64 C, .slice A q c, .int .u64 (RN : Int), .slice A0 n c0, .slice A1 n c1], .int .i64 me, .agg #[.int .i64 k, .int .i64 ce, .int .u64 a, .int .u64 b, .slice D m cd, .slice B q2 cb], .bool true] w (DoPost (⟨T, C, ws, RN, n, K0, K1⟩ : WldK) ⟨0, [], true⟩ w) := by
 have hlen := hA.len
 have hlen2 := hwd.len
 have hpos : 0 < n := hF.pos
 have hn : n ≤ 64 := hF.le
 have hR : RN < 18446744073709551616 := by have := hF.root.2; simp only at this; omega
 have hws2 : 2 ≤ ws.length := hF.ws.1
 have hws6 : ws.length ≤ 65536 := hF.ws.2
 have hm0 : ∀ x ∈ K0, x.1.length + mF ≤ 65536 := hF.k0
 have hm1 : ∀ x ∈ K1, x.1.length + mF ≤ 65536 := hF.k1
 clear hF
 go_enter Try.func20, Try.ntmps20
 go_upto_region 3 with (fail)
 obtain ⟨hW, hE, hG, hO, hP, hQ⟩ := boxes5 w (.cells #[.int .i64 T, .int .i64 C, .slice A q c, .int .u64 (RN : Int), .slice A0 n c0, .slice A1 n c1] 32) (.cells #[.int .i64 k, .int .i64 ce, .int .u64 a, .int .u64 b, .slice D m cd, .slice B q2 cb] 42) (.cells #[.int .i64 0, .int .i64 0, .slice none 0 0, .int .u64 0, .slice none 0 0, .slice none 0 0] 32) (.cells #[.int .u64 0, .slice none 0 0, .bool false] 51) (.cells #[.int .u64 0, .slice none 0 0, .bool false] 51)
 generalize ((((w.alloc (.cells #[.int .i64 T, .int .i64 C, .slice A q c, .int .u64 (RN : Int), .slice A0 n c0, .slice A1 n c1] 32)).alloc (.cells #[.int .i64 k, .int .i64 ce, .int .u64 a, .int .u64 b, .slice D m cd, .slice B q2 cb] 42)).alloc (.cells #[.int .i64 0, .int .i64 0, .slice none 0 0, .int .u64 0, .slice none 0 0, .slice none 0 0] 32)).alloc (.cells #[.int .u64 0, .slice none 0 0, .bool false] 51)).alloc (.cells #[.int .u64 0, .slice none 0 0, .bool false] 51) = W at *
 have hlt : w.heap.size + 1 + 1 + 1 + 1 < W.heap.size := (Array.getElem?_eq_some_iff.1 hQ).1
 have e0 : W.cell? ⟨w.heap.size, 0, none⟩ = some (.int .i64 T) := by simp [World.cell?, hE]
 have ef0 : W.frozen? ⟨w.heap.size, 0, none⟩ = false := by simp [World.frozen?, hE]
 have e1 : W.cell? ⟨w.heap.size, 1, none⟩ = some (.int .i64 C) := by simp [World.cell?, hE]
 have ef1 : W.frozen? ⟨w.heap.size, 1, none⟩ = false := by simp [World.frozen?, hE]
 have e2 : W.cell? ⟨w.heap.size, 2, none⟩ = some (.slice A q c) := by simp [World.cell?, hE]
 have ef2 : W.frozen? ⟨w.heap.size, 2, none⟩ = false := by simp [World.frozen?, hE]
 have e3 : W.cell? ⟨w.heap.size, 3, none⟩ = some (.int .u64 (RN : Int)) := by simp [World.cell?, hE]
 have ef3 : W.frozen? ⟨w.heap.size, 3, none⟩ = false := by simp [World.frozen?, hE]
 have e4 : W.cell? ⟨w.heap.size, 4, none⟩ = some (.slice A0 n c0) := by simp [World.cell?, hE]
 have ef4 : W.frozen? ⟨w.heap.size, 4, none⟩ = false := by simp [World.frozen?, hE]
 have e5 : W.cell? ⟨w.heap.size, 5, none⟩ = some (.slice A1 n c1) := by simp [World.cell?, hE]
 have ef5 : W.frozen? ⟨w.heap.size, 5, none⟩ = false := by simp [World.frozen?, hE]
 have g0 : W.cell? ⟨w.heap.size + 1, 0, none⟩ = some (.int .i64 k) := by simp [World.cell?, hG]
 have g1 : W.cell? ⟨w.heap.size + 1, 1, none⟩ = some (.int .i64 ce) := by simp [World.cell?, hG]
 have g2 : W.cell? ⟨w.heap.size + 1, 2, none⟩ = some (.int .u64 a) := by simp [World.cell?, hG]
 have g3 : W.cell? ⟨w.heap.size + 1, 3, none⟩ = some (.int .u64 b) := by simp [World.cell?, hG]
 have g4 : W.cell? ⟨w.heap.size + 1, 4, none⟩ = some (.slice D m cd) := by simp [World.cell?, hG]
 have g5 : W.cell? ⟨w.heap.size + 1, 5, none⟩ = some (.slice B q2 cb) := by simp [World.cell?, hG]
 have z0 : W.cell? ⟨w.heap.size + 1 + 1 + 1 + 1, 0, none⟩ = some (.int .u64 0) := by simp [World.cell?, hQ]
 have zf0 : W.frozen? ⟨w.heap.size + 1 + 1 + 1 + 1, 0, none⟩ = false := by simp [World.frozen?, hQ]
 have z1 : W.cell? ⟨w.heap.size + 1 + 1 + 1 + 1, 1, none⟩ = some (.slice none 0 0) := by simp [World.cell?, hQ]
 have zf1 : W.frozen? ⟨w.heap.size + 1 + 1 + 1 + 1, 1, none⟩ = false := by simp [World.frozen?, hQ]
 have z2 : W.cell? ⟨w.heap.size + 1 + 1 + 1 + 1, 2, none⟩ = some (.bool false) := by simp [World.cell?, hQ]
 have zf2 : W.frozen? ⟨w.heap.size + 1 + 1 + 1 + 1, 2, none⟩ = false := by simp [World.frozen?, hQ]
 go_wp2_with fail
 refine (adisk_any k _).mono ?_
 rintro e w1 ⟨rfl, rfl⟩
 rw [hk]
 go_upto_region 10 with (fail)
 have hE3 : (W.setCell ⟨w.heap.size + 1 + 1 + 1 + 1, 2, none⟩ (.bool true)).heap[w.heap.size]? = some (.cells #[.int .i64 T, .int .i64 C, .slice A q c, .int .u64 (RN : Int), .slice A0 n c0, .slice A1 n c1] 32 (0, 0)) := (Below.heap_setCell _ _ _ _ (by simp <;> omega)).trans hE
 have hO3 : (W.setCell ⟨w.heap.size + 1 + 1 + 1 + 1, 2, none⟩ (.bool true)).heap[w.heap.size + 1 + 1]? = some (.cells #[.int .i64 0, .int .i64 0, .slice none 0 0, .int .u64 0, .slice none 0 0, .slice none 0 0] 32 (0, 0)) := (Below.heap_setCell _ _ _ _ (by simp <;> omega)).trans hO
 have hP3 : (W.setCell ⟨w.heap.size + 1 + 1 + 1 + 1, 2, none⟩ (.bool true)).heap[w.heap.size + 1 + 1 + 1]? = some (.cells #[.int .u64 0, .slice none 0 0, .bool false] 51 (0, 0)) := (Below.heap_setCell _ _ _ _ (by simp <;> omega)).trans hP
 have hQ3 : (W.setCell ⟨w.heap.size + 1 + 1 + 1 + 1, 2, none⟩ (.bool true)).heap[w.heap.size + 1 + 1 + 1 + 1]? = some (.cells #[.int .u64 0, .slice none 0 0, .bool true] 51 (0, 0)) := heap_setCell_at hQ
 have hW3 : Ext w (W.setCell ⟨w.heap.size + 1 + 1 + 1 + 1, 2, none⟩ (.bool true)) := hW.setCell (show w.heap.size ≤ w.heap.size + 1 + 1 + 1 + 1 by omega) _
 clear e0 e1 e2 e3 e4 e5 ef0 ef1 ef2 ef3 ef4 ef5 g0 g1 g2 g3 g4 g5 z0 z1 z2 zf0 zf1 zf2
 clear hE hG hO hP hQ hW
 generalize (W.setCell ⟨w.heap.size + 1 + 1 + 1 + 1, 2, none⟩ (.bool true)) = w4 at *
 have hdk := hd.ext hW3
 have hwv := hA.ext hW3
 have hby := bytes_nil w4
 have hwl := hws2
 have HE := Lib.hid hE3
 have HO := Lib.hid hO3
 have HP := Lib.hid hP3
 have HQ := Lib.hid hQ3
 have HW := Lib.hid hW3
 clear hE3 hO3 hP3 hQ3 hW3 hlt
 obtain ⟨gOO, hOO⟩ : ∃ g, g = w.heap.size + 1 + 1 := ⟨_, rfl⟩
 refine' SB.wp_region_sure (gx := [(2, gOO)]) (Pn := fun _ _ => False) ⟨[(some 57, [], none), (some 58, [], none), (none, [0, 0], none), (none, [1, 2, 0, 1, 2], none)], [0, 0, 1, 7], [none, none, some []], [2]⟩ 3 59 [(0, 57), (1, 58)] [(0, 57), (1, 58)] [.det _, .det _, SB.Good.of (fun v w => w.heap[gOO]? = some (.cells #[.int .i64 T, .int .i64 C, .slice A q c, .int .u64 (RN : Int), .slice A0 n c0, .slice A1 n c1] 32 (0, 0))) (fun v w w' h hx => heap_ext h hx)] (by kernel_rfl) ?hpan (by kernel_rfl) (by kernel_rfl) rfl (by kernel_rfl) (by kernel_rfl) rfl ?hone ?hend
 case hpan =>
  intro _ _ _ _ h; exact h.elim
 case hone =>
  intro CS frS VS hCS ha hV
  have qs4 := slot_val (t := 4) ha rfl
  simp only [List.getElem_toArray, List.getElem_cons_succ, List.getElem_cons_zero] at qs4
  have qs8 := slot_val (t := 8) ha rfl
  simp only [List.getElem_toArray, List.getElem_cons_succ, List.getElem_cons_zero] at qs8
  have qs10 := slot_val (t := 10) ha rfl
  simp only [List.getElem_toArray, List.getElem_cons_succ, List.getElem_cons_zero] at qs10
  have HCS := Lib.hid hCS
  have HVS := Lib.hid hV
  clear ha hCS hV
  refine SB.sure_det (js := []) (ts := [4]) (gd := none) (bs := []) (SB.place_at HVS.out (k := 0) rfl) (by rw [HCS.out]; kernel_rfl) (by rw [HCS.out]; kernel_rfl) ?_ ?_
  ·intro wx hx ρ hρ hs hf; have hρc := hρ.const; have hρf := hρ.func
   obtain ⟨fx4, -⟩ := hf; rw [qs4] at fx4
   clear hs
   clear HCS HVS qs4 qs8 qs10
   refine SB.run_plain ?_
   have hgd : wx.heap[w.heap.size]? = some (.cells #[.int .i64 T, .int .i64 C, .slice A q c, .int .u64 (RN : Int), .slice A0 n c0, .slice A1 n c1] 32 (0, 0)) := hx.heap HE.out (by simp)
   have hd0 : wx.cell? ⟨w.heap.size, 0, none⟩ = some (.int .i64 T) := by simp [World.cell?, hgd]
   have hd1 : wx.cell? ⟨w.heap.size, 1, none⟩ = some (.int .i64 C) := by simp [World.cell?, hgd]
   have hd2 : wx.cell? ⟨w.heap.size, 2, none⟩ = some (.slice A q c) := by simp [World.cell?, hgd]
   have hd3 : wx.cell? ⟨w.heap.size, 3, none⟩ = some (.int .u64 (RN : Int)) := by simp [World.cell?, hgd]
   have hd4 : wx.cell? ⟨w.heap.size, 4, none⟩ = some (.slice A0 n c0) := by simp [World.cell?, hgd]
   have hd5 : wx.cell? ⟨w.heap.size, 5, none⟩ = some (.slice A1 n c1) := by simp [World.cell?, hgd]
   unfold SB.runs
   go_simp
   exact SB.detK.mk
  refine SB.sure_det (js := []) (ts := [10]) (gd := none) (bs := [gOO]) (SB.place_at HVS.out (k := 1) rfl) (by rw [HCS.out]; kernel_rfl) (by rw [HCS.out]; kernel_rfl) ?_ ?_
  ·intro wx hx ρ hρ hs hf; have hρc := hρ.const; have hρf := hρ.func
   obtain ⟨fx10, -⟩ := hf; rw [qs10] at fx10
   clear hs
   clear HCS HVS qs4 qs8 qs10
   refine SB.run_plain ?_
   have hgd : wx.heap[w.heap.size + 1 + 1 + 1 + 1]? = some (.cells #[.int .u64 0, .slice none 0 0, .bool true] 51 (0, 0)) := hx.heap HQ.out (by simp; omega)
   have hd0 : wx.cell? ⟨w.heap.size + 1 + 1 + 1 + 1, 0, none⟩ = some (.int .u64 0) := by simp [World.cell?, hgd]
   have hd1 : wx.cell? ⟨w.heap.size + 1 + 1 + 1 + 1, 1, none⟩ = some (.slice none 0 0) := by simp [World.cell?, hgd]
   have hd2 : wx.cell? ⟨w.heap.size + 1 + 1 + 1 + 1, 2, none⟩ = some (.bool true) := by simp [World.cell?, hgd]
   unfold SB.runs
   go_simp
   exact SB.detK.mk
  refine SB.sure_wild (js := [(0, 57)]) (ts := [8]) (gd := none) (bs := []) (cs := [gOO]) (SB.place_at HVS.out (k := 2) rfl) (by rw [HCS.out]; kernel_rfl) (by rw [HCS.out]; kernel_rfl) rfl ?_ ?_
  ·intro wx hx ρ hρ hs hf; have hρc := hρ.const; have hρf := hρ.func; obtain ⟨sn0, -⟩ := hs
   obtain ⟨fx8, -⟩ := hf; rw [qs8] at fx8
   rw [SB.place_at HVS.out (k := 0) rfl] at sn0; replace sn0 : ρ (.tmp 57) = _ := sn0
   clear HCS HVS qs4 qs8 qs10
   refine SB.run_plain ?_
   subst hOO
   have hg : wx.heap[w.heap.size + 1 + 1]? = some (.cells #[.int .i64 0, .int .i64 0, .slice none 0 0, .int .u64 0, .slice none 0 0, .slice none 0 0] 32 (0, 0)) := hx.heap HO.out (by simp)
   have f0 : wx.frozen? ⟨w.heap.size + 1 + 1, 0, none⟩ = false := by simp [World.frozen?, hg]
   have c0' : wx.cell? ⟨w.heap.size + 1 + 1, 0, none⟩ = some (.int .i64 0) := by simp [World.cell?, hg]
   have f1 : wx.frozen? ⟨w.heap.size + 1 + 1, 1, none⟩ = false := by simp [World.frozen?, hg]
   have c1' : wx.cell? ⟨w.heap.size + 1 + 1, 1, none⟩ = some (.int .i64 0) := by simp [World.cell?, hg]
   have f2 : wx.frozen? ⟨w.heap.size + 1 + 1, 2, none⟩ = false := by simp [World.frozen?, hg]
   have c2' : wx.cell? ⟨w.heap.size + 1 + 1, 2, none⟩ = some (.slice none 0 0) := by simp [World.cell?, hg]
   have f3 : wx.frozen? ⟨w.heap.size + 1 + 1, 3, none⟩ = false := by simp [World.frozen?, hg]
   have c3' : wx.cell? ⟨w.heap.size + 1 + 1, 3, none⟩ = some (.int .u64 0) := by simp [World.cell?, hg]
   have f4 : wx.frozen? ⟨w.heap.size + 1 + 1, 4, none⟩ = false := by simp [World.frozen?, hg]
   have c4' : wx.cell? ⟨w.heap.size + 1 + 1, 4, none⟩ = some (.slice none 0 0) := by simp [World.cell?, hg]
   have f5 : wx.frozen? ⟨w.heap.size + 1 + 1, 5, none⟩ = false := by simp [World.frozen?, hg]
   have c5' : wx.cell? ⟨w.heap.size + 1 + 1, 5, none⟩ = some (.slice none 0 0) := by simp [World.cell?, hg]
   unfold SB.runs
   go_simp
   exact ⟨.ofB (((((((ExtB.refl _ _).set _ _).set _ _).set _ _).set _ _).set _ _).set _ _) (by simp), setAll_all (vs := [.int .i64 T, .int .i64 C, .slice A q c, .int .u64 (RN : Int), .slice A0 n c0, .slice A1 n c1]) hg rfl⟩
  exact trivial
 case hend =>
  intro xs wx hx hg hq
  have gk0 : xs 0 = _ := SB.goods_get hg (i := 0) (j := 0) (d := 57) rfl
  have gk1 : xs 1 = _ := SB.goods_get hg (i := 1) (j := 1) (d := 58) rfl
  obtain ⟨-, gk2⟩ : ∃ v : Value, wx.heap[gOO]? = some (.cells #[.int .i64 T, .int .i64 C, .slice A q c, .int .u64 (RN : Int), .slice A0 n c0, .slice A1 n c1] 32 (0, 0)) := hq 2 (by decide) (by kernel_rfl)
  clear hg hq
  simp only [putAll, gk0, gk1]
  clear gk0 gk1
  clear xs
  simp only [Act.put, List.setIfInBounds_toArray, List.set_cons_zero, List.set_cons_succ, List.drop_succ_cons, List.drop_zero]
  subst hOO
  have hgO := gk2
  have hxs : SB.ExtS [w.heap.size + 1 + 1] w4.drew wx := hx
  have hbut : But (w.heap.size + 1 + 1) w4 wx := But.exts hxs
  have hgP : wx.heap[w.heap.size + 1 + 1 + 1]? = some (.cells #[.int .u64 0, .slice none 0 0, .bool false] 51 (0, 0)) := hbut _ _ (by omega) HP.out
  have hWx : Ext w wx := extS_base HW.out hxs (by omega)
  replace hdk := hdk.but hbut HO.out rfl
  replace hby := BytesV.but hby hbut HO.out rfl
  replace hwv := WordsV.but hwv hwl hbut HO.out rfl
  have hF : Ext w (((wx.setCell ⟨w.heap.size + 1 + 1 + 1, 0, none⟩ (.int .u64 0)).setCell ⟨w.heap.size + 1 + 1 + 1, 1, none⟩ (.slice none 0 0)).setCell ⟨w.heap.size + 1 + 1 + 1, 2, none⟩ (.bool true)) := setAll_ext (g := w.heap.size + 1 + 1 + 1) (vs := [.int .u64 0, .slice none 0 0, .bool true]) (i := 0) hWx (by omega)
  have hfP : (((wx.setCell ⟨w.heap.size + 1 + 1 + 1, 0, none⟩ (.int .u64 0)).setCell ⟨w.heap.size + 1 + 1 + 1, 1, none⟩ (.slice none 0 0)).setCell ⟨w.heap.size + 1 + 1 + 1, 2, none⟩ (.bool true)).heap[w.heap.size + 1 + 1 + 1]? = some (.cells #[.int .u64 0, .slice none 0 0, .bool true] 51 (0, 0)) := setAll_all (vs := [.int .u64 0, .slice none 0 0, .bool true]) hgP rfl
  have hfO : (((wx.setCell ⟨w.heap.size + 1 + 1 + 1, 0, none⟩ (.int .u64 0)).setCell ⟨w.heap.size + 1 + 1 + 1, 1, none⟩ (.slice none 0 0)).setCell ⟨w.heap.size + 1 + 1 + 1, 2, none⟩ (.bool true)).heap[w.heap.size + 1 + 1]? = some (.cells #[.int .i64 T, .int .i64 C, .slice A q c, .int .u64 (RN : Int), .slice A0 n c0, .slice A1 n c1] 32 (0, 0)) := (setAll_other (g := w.heap.size + 1 + 1 + 1) (by omega) [.int .u64 0, .slice none 0 0, .bool true] 0 wx).trans hgO
  have hfd := hdk.but (But.all (w.heap.size + 1 + 1 + 1) [.int .u64 0, .slice none 0 0, .bool true] 0 wx) hgP rfl
  have hfb := BytesV.but hby (But.all (w.heap.size + 1 + 1 + 1) [.int .u64 0, .slice none 0 0, .bool true] 0 wx) hgP rfl
  have hfw := WordsV.but hwv hwl (But.all (w.heap.size + 1 + 1 + 1) [.int .u64 0, .slice none 0 0, .bool true] 0 wx) hgP rfl
  change DkK (((wx.setCell ⟨w.heap.size + 1 + 1 + 1, 0, none⟩ (.int .u64 0)).setCell ⟨w.heap.size + 1 + 1 + 1, 1, none⟩ (.slice none 0 0)).setCell ⟨w.heap.size + 1 + 1 + 1, 2, none⟩ (.bool true)) _ _ _ _ _ at hfd
  change BytesV (((wx.setCell ⟨w.heap.size + 1 + 1 + 1, 0, none⟩ (.int .u64 0)).setCell ⟨w.heap.size + 1 + 1 + 1, 1, none⟩ (.slice none 0 0)).setCell ⟨w.heap.size + 1 + 1 + 1, 2, none⟩ (.bool true)) _ _ _ _ at hfb
  change WordsV (((wx.setCell ⟨w.heap.size + 1 + 1 + 1, 0, none⟩ (.int .u64 0)).setCell ⟨w.heap.size + 1 + 1 + 1, 1, none⟩ (.slice none 0 0)).setCell ⟨w.heap.size + 1 + 1 + 1, 2, none⟩ (.bool true)) _ _ _ _ at hfw
  have p0 : wx.cell? ⟨w.heap.size + 1 + 1 + 1, 0, none⟩ = some (.int .u64 0) := by simp [World.cell?, hgP]
  have pf0 : wx.frozen? ⟨w.heap.size + 1 + 1 + 1, 0, none⟩ = false := by simp [World.frozen?, hgP]
  have p1 : wx.cell? ⟨w.heap.size + 1 + 1 + 1, 1, none⟩ = some (.slice none 0 0) := by simp [World.cell?, hgP]
  have pf1 : wx.frozen? ⟨w.heap.size + 1 + 1 + 1, 1, none⟩ = false := by simp [World.frozen?, hgP]
  have p2 : wx.cell? ⟨w.heap.size + 1 + 1 + 1, 2, none⟩ = some (.bool false) := by simp [World.cell?, hgP]
  have pf2 : wx.frozen? ⟨w.heap.size + 1 + 1 + 1, 2, none⟩ = false := by simp [World.frozen?, hgP]
  clear hx hxs hbut hdk hby hwv
  go_wp2
  generalize (((wx.setCell ⟨w.heap.size + 1 + 1 + 1, 0, none⟩ (.int .u64 0)).setCell ⟨w.heap.size + 1 + 1 + 1, 1, none⟩ (.slice none 0 0)).setCell ⟨w.heap.size + 1 + 1 + 1, 2, none⟩ (.bool true)) = wf at *
  clear p0 p1 p2 pf0 pf1 pf2
  have o0 : wf.cell? ⟨w.heap.size + 1 + 1, 0, none⟩ = some (.int .i64 T) := by simp [World.cell?, hfO]
  have o1 : wf.cell? ⟨w.heap.size + 1 + 1, 1, none⟩ = some (.int .i64 C) := by simp [World.cell?, hfO]
  have o2 : wf.cell? ⟨w.heap.size + 1 + 1, 2, none⟩ = some (.slice A q c) := by simp [World.cell?, hfO]
  have o3 : wf.cell? ⟨w.heap.size + 1 + 1, 3, none⟩ = some (.int .u64 (RN : Int)) := by simp [World.cell?, hfO]
  have o4 : wf.cell? ⟨w.heap.size + 1 + 1, 4, none⟩ = some (.slice A0 n c0) := by simp [World.cell?, hfO]
  have o5 : wf.cell? ⟨w.heap.size + 1 + 1, 5, none⟩ = some (.slice A1 n c1) := by simp [World.cell?, hfO]
  have p0 : wf.cell? ⟨w.heap.size + 1 + 1 + 1, 0, none⟩ = some (.int .u64 0) := by simp [World.cell?, hfP]
  have p1 : wf.cell? ⟨w.heap.size + 1 + 1 + 1, 1, none⟩ = some (.slice none 0 0) := by simp [World.cell?, hfP]
  have p2 : wf.cell? ⟨w.heap.size + 1 + 1 + 1, 2, none⟩ = some (.bool true) := by simp [World.cell?, hfP]
  refine bodyPost_ret (v := .tuple #[.agg #[.int .i64 T, .int .i64 C, .slice A q c, .int .u64 (RN : Int), .slice A0 n c0, .slice A1 n c1], .agg #[.int .u64 0, .slice none 0 0, .bool true]]) (by simp [results, Try.results20, go_sem, o0, o1, o2, o3, o4, o5, p0, p1, p2]) rfl ⟨_, _, rfl, ⟨_, _, _, _, _, _, _, rfl, hfw, hfd⟩, ⟨_, _, _, rfl, hfb⟩, hF⟩
set_option maxRecDepth 100000 in
set_option maxHeartbeats 1000000 in
theorem do_disk (T C : Int) (A : Option Addr) (q c : Nat) (ws : List Int) (RN n : Nat) (A0 A1 : Option Addr) (c0 c1 : Nat) (K0 K1 : List Key) (me k ce a b : Int) (D : Option Addr) (m cd : Nat) (B : Option Addr) (q2 cb : Nat) (dat : List UInt8) (wd : List Int) (w : World) (hA : WordsV w A q c ws) (hd : DkK w (.agg #[.int .u64 (RN : Int), .slice A0 n c0, .slice A1 n c1]) (RN : Int) n K0 K1)
  (hB : BytesV w D m cd dat) (hwd : WordsV w B q2 cb wd) (ha : 0 ≤ a ∧ a < 18446744073709551616) (hb : 0 ≤ b ∧ b < 18446744073709551616) {mF : Nat} (hF : Fit ⟨T, C, ws, RN, n, K0, K1⟩ mF) (hk : diskKind k = true) (hmF : m = mF) :
  Calls Try.prog 20 #[.agg #[.int .i64 T, .int .i64 C, .slice A q c, .int .u64 (RN : Int), .slice A0 n c0, .slice A1 n c1], .int .i64 me, .agg #[.int .i64 k, .int .i64 ce, .int .u64 a, .int .u64 b, .slice D m cd, .slice B q2 cb], .bool false] w (DoPost (⟨T, C, ws, strRoot (RN : Int) ⟨k, ce, a, b, dat, wd⟩, n, strK0 (RN : Int) n me ⟨k, ce, a, b, dat, wd⟩ K0, strK1 (RN : Int) n me ⟨k, ce, a, b, dat, wd⟩ K1⟩ : WldK) (strR (RN : Int) ⟨k, ce, a, b, dat, wd⟩ K0 K1) w) := by
 have hlen := hA.len
 have hlen2 := hwd.len
 have hpos : 0 < n := hF.pos
 have hn : n ≤ 64 := hF.le
 have hR : RN < 18446744073709551616 := by have := hF.root.2; simp only at this; omega
 have hws2 : 2 ≤ ws.length := hF.ws.1
 have hws6 : ws.length ≤ 65536 := hF.ws.2
 have hm0 : ∀ x ∈ K0, x.1.length + mF ≤ 65536 := hF.k0
 have hm1 : ∀ x ∈ K1, x.1.length + mF ≤ 65536 := hF.k1
 clear hF
 subst hmF
 go_enter Try.func20, Try.ntmps20
 go_upto_region 3 with (fail)
 obtain ⟨hW, hE, hG, hO, hP, hQ⟩ := boxes5 w (.cells #[.int .i64 T, .int .i64 C, .slice A q c, .int .u64 (RN : Int), .slice A0 n c0, .slice A1 n c1] 32) (.cells #[.int .i64 k, .int .i64 ce, .int .u64 a, .int .u64 b, .slice D m cd, .slice B q2 cb] 42) (.cells #[.int .i64 0, .int .i64 0, .slice none 0 0, .int .u64 0, .slice none 0 0, .slice none 0 0] 32) (.cells #[.int .u64 0, .slice none 0 0, .bool false] 51) (.cells #[.int .u64 0, .slice none 0 0, .bool false] 51)
 generalize ((((w.alloc (.cells #[.int .i64 T, .int .i64 C, .slice A q c, .int .u64 (RN : Int), .slice A0 n c0, .slice A1 n c1] 32)).alloc (.cells #[.int .i64 k, .int .i64 ce, .int .u64 a, .int .u64 b, .slice D m cd, .slice B q2 cb] 42)).alloc (.cells #[.int .i64 0, .int .i64 0, .slice none 0 0, .int .u64 0, .slice none 0 0, .slice none 0 0] 32)).alloc (.cells #[.int .u64 0, .slice none 0 0, .bool false] 51)).alloc (.cells #[.int .u64 0, .slice none 0 0, .bool false] 51) = W at *
 have hlt : w.heap.size + 1 + 1 + 1 + 1 < W.heap.size := (Array.getElem?_eq_some_iff.1 hQ).1
 have e0 : W.cell? ⟨w.heap.size, 0, none⟩ = some (.int .i64 T) := by simp [World.cell?, hE]
 have ef0 : W.frozen? ⟨w.heap.size, 0, none⟩ = false := by simp [World.frozen?, hE]
 have e1 : W.cell? ⟨w.heap.size, 1, none⟩ = some (.int .i64 C) := by simp [World.cell?, hE]
 have ef1 : W.frozen? ⟨w.heap.size, 1, none⟩ = false := by simp [World.frozen?, hE]
 have e2 : W.cell? ⟨w.heap.size, 2, none⟩ = some (.slice A q c) := by simp [World.cell?, hE]
 have ef2 : W.frozen? ⟨w.heap.size, 2, none⟩ = false := by simp [World.frozen?, hE]
 have e3 : W.cell? ⟨w.heap.size, 3, none⟩ = some (.int .u64 (RN : Int)) := by simp [World.cell?, hE]
 have ef3 : W.frozen? ⟨w.heap.size, 3, none⟩ = false := by simp [World.frozen?, hE]
 have e4 : W.cell? ⟨w.heap.size, 4, none⟩ = some (.slice A0 n c0) := by simp [World.cell?, hE]
 have ef4 : W.frozen? ⟨w.heap.size, 4, none⟩ = false := by simp [World.frozen?, hE]
 have e5 : W.cell? ⟨w.heap.size, 5, none⟩ = some (.slice A1 n c1) := by simp [World.cell?, hE]
 have ef5 : W.frozen? ⟨w.heap.size, 5, none⟩ = false := by simp [World.frozen?, hE]
 have g0 : W.cell? ⟨w.heap.size + 1, 0, none⟩ = some (.int .i64 k) := by simp [World.cell?, hG]
 have g1 : W.cell? ⟨w.heap.size + 1, 1, none⟩ = some (.int .i64 ce) := by simp [World.cell?, hG]
 have g2 : W.cell? ⟨w.heap.size + 1, 2, none⟩ = some (.int .u64 a) := by simp [World.cell?, hG]
 have g3 : W.cell? ⟨w.heap.size + 1, 3, none⟩ = some (.int .u64 b) := by simp [World.cell?, hG]
 have g4 : W.cell? ⟨w.heap.size + 1, 4, none⟩ = some (.slice D m cd) := by simp [World.cell?, hG]
 have g5 : W.cell? ⟨w.heap.size + 1, 5, none⟩ = some (.slice B q2 cb) := by simp [World.cell?, hG]
 have z0 : W.cell? ⟨w.heap.size + 1 + 1 + 1 + 1, 0, none⟩ = some (.int .u64 0) := by simp [World.cell?, hQ]
 have zf0 : W.frozen? ⟨w.heap.size + 1 + 1 + 1 + 1, 0, none⟩ = false := by simp [World.frozen?, hQ]
 have z1 : W.cell? ⟨w.heap.size + 1 + 1 + 1 + 1, 1, none⟩ = some (.slice none 0 0) := by simp [World.cell?, hQ]
 have zf1 : W.frozen? ⟨w.heap.size + 1 + 1 + 1 + 1, 1, none⟩ = false := by simp [World.frozen?, hQ]
 have z2 : W.cell? ⟨w.heap.size + 1 + 1 + 1 + 1, 2, none⟩ = some (.bool false) := by simp [World.cell?, hQ]
 have zf2 : W.frozen? ⟨w.heap.size + 1 + 1 + 1 + 1, 2, none⟩ = false := by simp [World.frozen?, hQ]
 go_wp2_with fail
 refine (adisk_any k _).mono ?_
 rintro e w1 ⟨rfl, rfl⟩
 rw [hk]
 go_wp2_with fail
 refine (adisk_any k _).mono ?_
 rintro e w1 ⟨rfl, rfl⟩
 rw [hk]
 go_wp2_with fail
 refine (streams_any RN n A0 A1 c0 c1 K0 K1 me k ce a b D m cd B q2 cb dat wd _ (hd.ext hW) hR hpos hn (hB.ext hW) hm0 hm1 hk).mono ?_
 rintro e w3 ⟨v', r', rfl, hdk, hres, hx⟩
 generalize strRoot (RN : Int) ⟨k, ce, a, b, dat, wd⟩ = RZ at *
 obtain ⟨X0, X1, y0, y1, rfl⟩ := hdk.form
 generalize strR (RN : Int) ⟨k, ce, a, b, dat, wd⟩ K0 K1 = rr at *
 obtain ⟨rN, rb, rf⟩ := rr
 obtain ⟨E, qb, eb, rfl, hby⟩ := hres
 simp only at hby
 replace hE := heap_ext hE hx
 replace hG := heap_ext hG hx
 replace hO := heap_ext hO hx
 replace hP := heap_ext hP hx
 replace hQ := heap_ext hQ hx
 replace hW := hW.trans hx
 clear e0 e1 e2 e3 e4 e5 ef0 ef1 ef2 ef3 ef4 ef5 g0 g1 g2 g3 g4 g5 z0 z1 z2 zf0 zf1 zf2
 clear hx
 have e0 : w3.cell? ⟨w.heap.size, 0, none⟩ = some (.int .i64 T) := by simp [World.cell?, hE]
 have ef0 : w3.frozen? ⟨w.heap.size, 0, none⟩ = false := by simp [World.frozen?, hE]
 have e1 : w3.cell? ⟨w.heap.size, 1, none⟩ = some (.int .i64 C) := by simp [World.cell?, hE]
 have ef1 : w3.frozen? ⟨w.heap.size, 1, none⟩ = false := by simp [World.frozen?, hE]
 have e2 : w3.cell? ⟨w.heap.size, 2, none⟩ = some (.slice A q c) := by simp [World.cell?, hE]
 have ef2 : w3.frozen? ⟨w.heap.size, 2, none⟩ = false := by simp [World.frozen?, hE]
 have e3 : w3.cell? ⟨w.heap.size, 3, none⟩ = some (.int .u64 (RN : Int)) := by simp [World.cell?, hE]
 have ef3 : w3.frozen? ⟨w.heap.size, 3, none⟩ = false := by simp [World.frozen?, hE]
 have e4 : w3.cell? ⟨w.heap.size, 4, none⟩ = some (.slice A0 n c0) := by simp [World.cell?, hE]
 have ef4 : w3.frozen? ⟨w.heap.size, 4, none⟩ = false := by simp [World.frozen?, hE]
 have e5 : w3.cell? ⟨w.heap.size, 5, none⟩ = some (.slice A1 n c1) := by simp [World.cell?, hE]
 have ef5 : w3.frozen? ⟨w.heap.size, 5, none⟩ = false := by simp [World.frozen?, hE]
 have z0 : w3.cell? ⟨w.heap.size + 1 + 1 + 1 + 1, 0, none⟩ = some (.int .u64 0) := by simp [World.cell?, hQ]
 have zf0 : w3.frozen? ⟨w.heap.size + 1 + 1 + 1 + 1, 0, none⟩ = false := by simp [World.frozen?, hQ]
 have z1 : w3.cell? ⟨w.heap.size + 1 + 1 + 1 + 1, 1, none⟩ = some (.slice none 0 0) := by simp [World.cell?, hQ]
 have zf1 : w3.frozen? ⟨w.heap.size + 1 + 1 + 1 + 1, 1, none⟩ = false := by simp [World.frozen?, hQ]
 have z2 : w3.cell? ⟨w.heap.size + 1 + 1 + 1 + 1, 2, none⟩ = some (.bool false) := by simp [World.cell?, hQ]
 have zf2 : w3.frozen? ⟨w.heap.size + 1 + 1 + 1 + 1, 2, none⟩ = false := by simp [World.frozen?, hQ]
 go_upto_region 10 with (fail)
 have hE3 : ((((((w3.setCell ⟨w.heap.size, 3, none⟩ (.int .u64 RZ)).setCell ⟨w.heap.size, 4, none⟩ (.slice X0 n y0)).setCell ⟨w.heap.size, 5, none⟩ (.slice X1 n y1)).setCell ⟨w.heap.size + 1 + 1 + 1 + 1, 0, none⟩ (.int .u64 rN)).setCell ⟨w.heap.size + 1 + 1 + 1 + 1, 1, none⟩ (.slice E qb eb)).setCell ⟨w.heap.size + 1 + 1 + 1 + 1, 2, none⟩ (.bool rf)).heap[w.heap.size]? = some (.cells #[.int .i64 T, .int .i64 C, .slice A q c, .int .u64 RZ, .slice X0 n y0, .slice X1 n y1] 32 (0, 0)) := (setAll_other (g := w.heap.size + 1 + 1 + 1 + 1) (by omega) [.int .u64 rN, .slice E qb eb, .bool rf] 0 _).trans (heap_setCell_at (heap_setCell_at (heap_setCell_at hE)))
 have hO3 : ((((((w3.setCell ⟨w.heap.size, 3, none⟩ (.int .u64 RZ)).setCell ⟨w.heap.size, 4, none⟩ (.slice X0 n y0)).setCell ⟨w.heap.size, 5, none⟩ (.slice X1 n y1)).setCell ⟨w.heap.size + 1 + 1 + 1 + 1, 0, none⟩ (.int .u64 rN)).setCell ⟨w.heap.size + 1 + 1 + 1 + 1, 1, none⟩ (.slice E qb eb)).setCell ⟨w.heap.size + 1 + 1 + 1 + 1, 2, none⟩ (.bool rf)).heap[w.heap.size + 1 + 1]? = some (.cells #[.int .i64 0, .int .i64 0, .slice none 0 0, .int .u64 0, .slice none 0 0, .slice none 0 0] 32 (0, 0)) := (setAll_other (g := w.heap.size + 1 + 1 + 1 + 1) (by omega) [.int .u64 rN, .slice E qb eb, .bool rf] 0 _).trans ((setAll_other (g := w.heap.size) (by omega) [.int .u64 RZ, .slice X0 n y0, .slice X1 n y1] 3 w3).trans hO)
 have hP3 : ((((((w3.setCell ⟨w.heap.size, 3, none⟩ (.int .u64 RZ)).setCell ⟨w.heap.size, 4, none⟩ (.slice X0 n y0)).setCell ⟨w.heap.size, 5, none⟩ (.slice X1 n y1)).setCell ⟨w.heap.size + 1 + 1 + 1 + 1, 0, none⟩ (.int .u64 rN)).setCell ⟨w.heap.size + 1 + 1 + 1 + 1, 1, none⟩ (.slice E qb eb)).setCell ⟨w.heap.size + 1 + 1 + 1 + 1, 2, none⟩ (.bool rf)).heap[w.heap.size + 1 + 1 + 1]? = some (.cells #[.int .u64 0, .slice none 0 0, .bool false] 51 (0, 0)) := (setAll_other (g := w.heap.size + 1 + 1 + 1 + 1) (by omega) [.int .u64 rN, .slice E qb eb, .bool rf] 0 _).trans ((setAll_other (g := w.heap.size) (by omega) [.int .u64 RZ, .slice X0 n y0, .slice X1 n y1] 3 w3).trans hP)
 have hQ3 : ((((((w3.setCell ⟨w.heap.size, 3, none⟩ (.int .u64 RZ)).setCell ⟨w.heap.size, 4, none⟩ (.slice X0 n y0)).setCell ⟨w.heap.size, 5, none⟩ (.slice X1 n y1)).setCell ⟨w.heap.size + 1 + 1 + 1 + 1, 0, none⟩ (.int .u64 rN)).setCell ⟨w.heap.size + 1 + 1 + 1 + 1, 1, none⟩ (.slice E qb eb)).setCell ⟨w.heap.size + 1 + 1 + 1 + 1, 2, none⟩ (.bool rf)).heap[w.heap.size + 1 + 1 + 1 + 1]? = some (.cells #[.int .u64 rN, .slice E qb eb, .bool rf] 51 (0, 0)) := setAll_all (vs := [.int .u64 rN, .slice E qb eb, .bool rf]) ((setAll_other (g := w.heap.size) (by omega) [.int .u64 RZ, .slice X0 n y0, .slice X1 n y1] 3 w3).trans hQ) rfl
 have hW3 : Ext w ((((((w3.setCell ⟨w.heap.size, 3, none⟩ (.int .u64 RZ)).setCell ⟨w.heap.size, 4, none⟩ (.slice X0 n y0)).setCell ⟨w.heap.size, 5, none⟩ (.slice X1 n y1)).setCell ⟨w.heap.size + 1 + 1 + 1 + 1, 0, none⟩ (.int .u64 rN)).setCell ⟨w.heap.size + 1 + 1 + 1 + 1, 1, none⟩ (.slice E qb eb)).setCell ⟨w.heap.size + 1 + 1 + 1 + 1, 2, none⟩ (.bool rf)) := setAll_ext (g := w.heap.size + 1 + 1 + 1 + 1) (vs := [.int .u64 rN, .slice E qb eb, .bool rf]) (i := 0) (setAll_ext (g := w.heap.size) (vs := [.int .u64 RZ, .slice X0 n y0, .slice X1 n y1]) (i := 3) hW (Nat.le_refl _)) (by omega)
 have hQm : (setAll (w.heap.size) 3 [.int .u64 RZ, .slice X0 n y0, .slice X1 n y1] w3).heap[w.heap.size + 1 + 1 + 1 + 1]? = some (.cells #[.int .u64 0, .slice none 0 0, .bool false] 51 (0, 0)) := (setAll_other (g := w.heap.size) (by omega) [.int .u64 RZ, .slice X0 n y0, .slice X1 n y1] 3 w3).trans hQ
 replace hdk := (hdk.but (But.all w.heap.size [.int .u64 RZ, .slice X0 n y0, .slice X1 n y1] 3 w3) hE rfl).but (But.all (w.heap.size + 1 + 1 + 1 + 1) [.int .u64 rN, .slice E qb eb, .bool rf] 0 _) hQm rfl
 replace hby := BytesV.but (BytesV.but hby (But.all w.heap.size [.int .u64 RZ, .slice X0 n y0, .slice X1 n y1] 3 w3) hE rfl) (But.all (w.heap.size + 1 + 1 + 1 + 1) [.int .u64 rN, .slice E qb eb, .bool rf] 0 _) hQm rfl
 change DkK ((((((w3.setCell ⟨w.heap.size, 3, none⟩ (.int .u64 RZ)).setCell ⟨w.heap.size, 4, none⟩ (.slice X0 n y0)).setCell ⟨w.heap.size, 5, none⟩ (.slice X1 n y1)).setCell ⟨w.heap.size + 1 + 1 + 1 + 1, 0, none⟩ (.int .u64 rN)).setCell ⟨w.heap.size + 1 + 1 + 1 + 1, 1, none⟩ (.slice E qb eb)).setCell ⟨w.heap.size + 1 + 1 + 1 + 1, 2, none⟩ (.bool rf)) _ _ _ _ _ at hdk
 change BytesV ((((((w3.setCell ⟨w.heap.size, 3, none⟩ (.int .u64 RZ)).setCell ⟨w.heap.size, 4, none⟩ (.slice X0 n y0)).setCell ⟨w.heap.size, 5, none⟩ (.slice X1 n y1)).setCell ⟨w.heap.size + 1 + 1 + 1 + 1, 0, none⟩ (.int .u64 rN)).setCell ⟨w.heap.size + 1 + 1 + 1 + 1, 1, none⟩ (.slice E qb eb)).setCell ⟨w.heap.size + 1 + 1 + 1 + 1, 2, none⟩ (.bool rf)) _ _ _ _ at hby
 clear hQm
 clear e0 e1 e2 e3 e4 e5 ef0 ef1 ef2 ef3 ef4 ef5 z0 z1 z2 zf0 zf1 zf2
 clear hE hG hO hP hQ hW
 generalize ((((((w3.setCell ⟨w.heap.size, 3, none⟩ (.int .u64 RZ)).setCell ⟨w.heap.size, 4, none⟩ (.slice X0 n y0)).setCell ⟨w.heap.size, 5, none⟩ (.slice X1 n y1)).setCell ⟨w.heap.size + 1 + 1 + 1 + 1, 0, none⟩ (.int .u64 rN)).setCell ⟨w.heap.size + 1 + 1 + 1 + 1, 1, none⟩ (.slice E qb eb)).setCell ⟨w.heap.size + 1 + 1 + 1 + 1, 2, none⟩ (.bool rf)) = w4 at *
 have hwv := hA.ext hW3
 have hwl := hws2
 have HE := Lib.hid hE3
 have HO := Lib.hid hO3
 have HP := Lib.hid hP3
 have HQ := Lib.hid hQ3
 have HW := Lib.hid hW3
 clear hE3 hO3 hP3 hQ3 hW3 hlt
 obtain ⟨gOO, hOO⟩ : ∃ g, g = w.heap.size + 1 + 1 := ⟨_, rfl⟩
 refine' SB.wp_region_sure (gx := [(2, gOO)]) (Pn := fun _ _ => False) ⟨[(some 57, [], none), (some 58, [], none), (none, [0, 0], none), (none, [1, 2, 0, 1, 2], none)], [0, 0, 1, 7], [none, none, some []], [2]⟩ 3 59 [(0, 57), (1, 58)] [(0, 57), (1, 58)] [.det _, .det _, SB.Good.of (fun v w => w.heap[gOO]? = some (.cells #[.int .i64 T, .int .i64 C, .slice A q c, .int .u64 RZ, .slice X0 n y0, .slice X1 n y1] 32 (0, 0))) (fun v w w' h hx => heap_ext h hx)] (by kernel_rfl) ?hpan (by kernel_rfl) (by kernel_rfl) rfl (by kernel_rfl) (by kernel_rfl) rfl ?hone ?hend
 case hpan =>
  intro _ _ _ _ h; exact h.elim
 case hone =>
  intro CS frS VS hCS ha hV
  have qs4 := slot_val (t := 4) ha rfl
  simp only [List.getElem_toArray, List.getElem_cons_succ, List.getElem_cons_zero] at qs4
  have qs8 := slot_val (t := 8) ha rfl
  simp only [List.getElem_toArray, List.getElem_cons_succ, List.getElem_cons_zero] at qs8
  have qs10 := slot_val (t := 10) ha rfl
  simp only [List.getElem_toArray, List.getElem_cons_succ, List.getElem_cons_zero] at qs10
  have HCS := Lib.hid hCS
  have HVS := Lib.hid hV
  clear ha hCS hV
  refine SB.sure_det (js := []) (ts := [4]) (gd := none) (bs := []) (SB.place_at HVS.out (k := 0) rfl) (by rw [HCS.out]; kernel_rfl) (by rw [HCS.out]; kernel_rfl) ?_ ?_
  ·intro wx hx ρ hρ hs hf; have hρc := hρ.const; have hρf := hρ.func
   obtain ⟨fx4, -⟩ := hf; rw [qs4] at fx4
   clear hs
   clear HCS HVS qs4 qs8 qs10
   refine SB.run_plain ?_
   have hgd : wx.heap[w.heap.size]? = some (.cells #[.int .i64 T, .int .i64 C, .slice A q c, .int .u64 RZ, .slice X0 n y0, .slice X1 n y1] 32 (0, 0)) := hx.heap HE.out (by simp)
   have hd0 : wx.cell? ⟨w.heap.size, 0, none⟩ = some (.int .i64 T) := by simp [World.cell?, hgd]
   have hd1 : wx.cell? ⟨w.heap.size, 1, none⟩ = some (.int .i64 C) := by simp [World.cell?, hgd]
   have hd2 : wx.cell? ⟨w.heap.size, 2, none⟩ = some (.slice A q c) := by simp [World.cell?, hgd]
   have hd3 : wx.cell? ⟨w.heap.size, 3, none⟩ = some (.int .u64 RZ) := by simp [World.cell?, hgd]
   have hd4 : wx.cell? ⟨w.heap.size, 4, none⟩ = some (.slice X0 n y0) := by simp [World.cell?, hgd]
   have hd5 : wx.cell? ⟨w.heap.size, 5, none⟩ = some (.slice X1 n y1) := by simp [World.cell?, hgd]
   unfold SB.runs
   go_simp
   exact SB.detK.mk
  refine SB.sure_det (js := []) (ts := [10]) (gd := none) (bs := [gOO]) (SB.place_at HVS.out (k := 1) rfl) (by rw [HCS.out]; kernel_rfl) (by rw [HCS.out]; kernel_rfl) ?_ ?_
  ·intro wx hx ρ hρ hs hf; have hρc := hρ.const; have hρf := hρ.func
   obtain ⟨fx10, -⟩ := hf; rw [qs10] at fx10
   clear hs
   clear HCS HVS qs4 qs8 qs10
   refine SB.run_plain ?_
   have hgd : wx.heap[w.heap.size + 1 + 1 + 1 + 1]? = some (.cells #[.int .u64 rN, .slice E qb eb, .bool rf] 51 (0, 0)) := hx.heap HQ.out (by simp; omega)
   have hd0 : wx.cell? ⟨w.heap.size + 1 + 1 + 1 + 1, 0, none⟩ = some (.int .u64 rN) := by simp [World.cell?, hgd]
   have hd1 : wx.cell? ⟨w.heap.size + 1 + 1 + 1 + 1, 1, none⟩ = some (.slice E qb eb) := by simp [World.cell?, hgd]
   have hd2 : wx.cell? ⟨w.heap.size + 1 + 1 + 1 + 1, 2, none⟩ = some (.bool rf) := by simp [World.cell?, hgd]
   unfold SB.runs
   go_simp
   exact SB.detK.mk
  refine SB.sure_wild (js := [(0, 57)]) (ts := [8]) (gd := none) (bs := []) (cs := [gOO]) (SB.place_at HVS.out (k := 2) rfl) (by rw [HCS.out]; kernel_rfl) (by rw [HCS.out]; kernel_rfl) rfl ?_ ?_
  ·intro wx hx ρ hρ hs hf; have hρc := hρ.const; have hρf := hρ.func; obtain ⟨sn0, -⟩ := hs
   obtain ⟨fx8, -⟩ := hf; rw [qs8] at fx8
   rw [SB.place_at HVS.out (k := 0) rfl] at sn0; replace sn0 : ρ (.tmp 57) = _ := sn0
   clear HCS HVS qs4 qs8 qs10
   refine SB.run_plain ?_
   subst hOO
   have hg : wx.heap[w.heap.size + 1 + 1]? = some (.cells #[.int .i64 0, .int .i64 0, .slice none 0 0, .int .u64 0, .slice none 0 0, .slice none 0 0] 32 (0, 0)) := hx.heap HO.out (by simp)
   have f0 : wx.frozen? ⟨w.heap.size + 1 + 1, 0, none⟩ = false := by simp [World.frozen?, hg]
   have c0' : wx.cell? ⟨w.heap.size + 1 + 1, 0, none⟩ = some (.int .i64 0) := by simp [World.cell?, hg]
   have f1 : wx.frozen? ⟨w.heap.size + 1 + 1, 1, none⟩ = false := by simp [World.frozen?, hg]
   have c1' : wx.cell? ⟨w.heap.size + 1 + 1, 1, none⟩ = some (.int .i64 0) := by simp [World.cell?, hg]
   have f2 : wx.frozen? ⟨w.heap.size + 1 + 1, 2, none⟩ = false := by simp [World.frozen?, hg]
   have c2' : wx.cell? ⟨w.heap.size + 1 + 1, 2, none⟩ = some (.slice none 0 0) := by simp [World.cell?, hg]
   have f3 : wx.frozen? ⟨w.heap.size + 1 + 1, 3, none⟩ = false := by simp [World.frozen?, hg]
   have c3' : wx.cell? ⟨w.heap.size + 1 + 1, 3, none⟩ = some (.int .u64 0) := by simp [World.cell?, hg]
   have f4 : wx.frozen? ⟨w.heap.size + 1 + 1, 4, none⟩ = false := by simp [World.frozen?, hg]
   have c4' : wx.cell? ⟨w.heap.size + 1 + 1, 4, none⟩ = some (.slice none 0 0) := by simp [World.cell?, hg]
   have f5 : wx.frozen? ⟨w.heap.size + 1 + 1, 5, none⟩ = false := by simp [World.frozen?, hg]
   have c5' : wx.cell? ⟨w.heap.size + 1 + 1, 5, none⟩ = some (.slice none 0 0) := by simp [World.cell?, hg]
   unfold SB.runs
   go_simp
   exact ⟨.ofB (((((((ExtB.refl _ _).set _ _).set _ _).set _ _).set _ _).set _ _).set _ _) (by simp), setAll_all (vs := [.int .i64 T, .int .i64 C, .slice A q c, .int .u64 RZ, .slice X0 n y0, .slice X1 n y1]) hg rfl⟩
  exact trivial
 case hend =>
  intro xs wx hx hg hq
  have gk0 : xs 0 = _ := SB.goods_get hg (i := 0) (j := 0) (d := 57) rfl
  have gk1 : xs 1 = _ := SB.goods_get hg (i := 1) (j := 1) (d := 58) rfl
  obtain ⟨-, gk2⟩ : ∃ v : Value, wx.heap[gOO]? = some (.cells #[.int .i64 T, .int .i64 C, .slice A q c, .int .u64 RZ, .slice X0 n y0, .slice X1 n y1] 32 (0, 0)) := hq 2 (by decide) (by kernel_rfl)
  clear hg hq
  simp only [putAll, gk0, gk1]
  clear gk0 gk1
  clear xs
  simp only [Act.put, List.setIfInBounds_toArray, List.set_cons_zero, List.set_cons_succ, List.drop_succ_cons, List.drop_zero]
  subst hOO
  have hgO := gk2
  have hxs : SB.ExtS [w.heap.size + 1 + 1] w4.drew wx := hx
  have hbut : But (w.heap.size + 1 + 1) w4 wx := But.exts hxs
  have hgP : wx.heap[w.heap.size + 1 + 1 + 1]? = some (.cells #[.int .u64 0, .slice none 0 0, .bool false] 51 (0, 0)) := hbut _ _ (by omega) HP.out
  have hWx : Ext w wx := extS_base HW.out hxs (by omega)
  replace hdk := hdk.but hbut HO.out rfl
  replace hby := BytesV.but hby hbut HO.out rfl
  replace hwv := WordsV.but hwv hwl hbut HO.out rfl
  have hF : Ext w (((wx.setCell ⟨w.heap.size + 1 + 1 + 1, 0, none⟩ (.int .u64 rN)).setCell ⟨w.heap.size + 1 + 1 + 1, 1, none⟩ (.slice E qb eb)).setCell ⟨w.heap.size + 1 + 1 + 1, 2, none⟩ (.bool rf)) := setAll_ext (g := w.heap.size + 1 + 1 + 1) (vs := [.int .u64 rN, .slice E qb eb, .bool rf]) (i := 0) hWx (by omega)
  have hfP : (((wx.setCell ⟨w.heap.size + 1 + 1 + 1, 0, none⟩ (.int .u64 rN)).setCell ⟨w.heap.size + 1 + 1 + 1, 1, none⟩ (.slice E qb eb)).setCell ⟨w.heap.size + 1 + 1 + 1, 2, none⟩ (.bool rf)).heap[w.heap.size + 1 + 1 + 1]? = some (.cells #[.int .u64 rN, .slice E qb eb, .bool rf] 51 (0, 0)) := setAll_all (vs := [.int .u64 rN, .slice E qb eb, .bool rf]) hgP rfl
  have hfO : (((wx.setCell ⟨w.heap.size + 1 + 1 + 1, 0, none⟩ (.int .u64 rN)).setCell ⟨w.heap.size + 1 + 1 + 1, 1, none⟩ (.slice E qb eb)).setCell ⟨w.heap.size + 1 + 1 + 1, 2, none⟩ (.bool rf)).heap[w.heap.size + 1 + 1]? = some (.cells #[.int .i64 T, .int .i64 C, .slice A q c, .int .u64 RZ, .slice X0 n y0, .slice X1 n y1] 32 (0, 0)) := (setAll_other (g := w.heap.size + 1 + 1 + 1) (by omega) [.int .u64 rN, .slice E qb eb, .bool rf] 0 wx).trans hgO
  have hfd := hdk.but (But.all (w.heap.size + 1 + 1 + 1) [.int .u64 rN, .slice E qb eb, .bool rf] 0 wx) hgP rfl
  have hfb := BytesV.but hby (But.all (w.heap.size + 1 + 1 + 1) [.int .u64 rN, .slice E qb eb, .bool rf] 0 wx) hgP rfl
  have hfw := WordsV.but hwv hwl (But.all (w.heap.size + 1 + 1 + 1) [.int .u64 rN, .slice E qb eb, .bool rf] 0 wx) hgP rfl
  change DkK (((wx.setCell ⟨w.heap.size + 1 + 1 + 1, 0, none⟩ (.int .u64 rN)).setCell ⟨w.heap.size + 1 + 1 + 1, 1, none⟩ (.slice E qb eb)).setCell ⟨w.heap.size + 1 + 1 + 1, 2, none⟩ (.bool rf)) _ _ _ _ _ at hfd
  change BytesV (((wx.setCell ⟨w.heap.size + 1 + 1 + 1, 0, none⟩ (.int .u64 rN)).setCell ⟨w.heap.size + 1 + 1 + 1, 1, none⟩ (.slice E qb eb)).setCell ⟨w.heap.size + 1 + 1 + 1, 2, none⟩ (.bool rf)) _ _ _ _ at hfb
  change WordsV (((wx.setCell ⟨w.heap.size + 1 + 1 + 1, 0, none⟩ (.int .u64 rN)).setCell ⟨w.heap.size + 1 + 1 + 1, 1, none⟩ (.slice E qb eb)).setCell ⟨w.heap.size + 1 + 1 + 1, 2, none⟩ (.bool rf)) _ _ _ _ at hfw
  have p0 : wx.cell? ⟨w.heap.size + 1 + 1 + 1, 0, none⟩ = some (.int .u64 0) := by simp [World.cell?, hgP]
  have pf0 : wx.frozen? ⟨w.heap.size + 1 + 1 + 1, 0, none⟩ = false := by simp [World.frozen?, hgP]
  have p1 : wx.cell? ⟨w.heap.size + 1 + 1 + 1, 1, none⟩ = some (.slice none 0 0) := by simp [World.cell?, hgP]
  have pf1 : wx.frozen? ⟨w.heap.size + 1 + 1 + 1, 1, none⟩ = false := by simp [World.frozen?, hgP]
  have p2 : wx.cell? ⟨w.heap.size + 1 + 1 + 1, 2, none⟩ = some (.bool false) := by simp [World.cell?, hgP]
  have pf2 : wx.frozen? ⟨w.heap.size + 1 + 1 + 1, 2, none⟩ = false := by simp [World.frozen?, hgP]
  clear hx hxs hbut hdk hby hwv
  go_wp2
  generalize (((wx.setCell ⟨w.heap.size + 1 + 1 + 1, 0, none⟩ (.int .u64 rN)).setCell ⟨w.heap.size + 1 + 1 + 1, 1, none⟩ (.slice E qb eb)).setCell ⟨w.heap.size + 1 + 1 + 1, 2, none⟩ (.bool rf)) = wf at *
  clear p0 p1 p2 pf0 pf1 pf2
  have o0 : wf.cell? ⟨w.heap.size + 1 + 1, 0, none⟩ = some (.int .i64 T) := by simp [World.cell?, hfO]
  have o1 : wf.cell? ⟨w.heap.size + 1 + 1, 1, none⟩ = some (.int .i64 C) := by simp [World.cell?, hfO]
  have o2 : wf.cell? ⟨w.heap.size + 1 + 1, 2, none⟩ = some (.slice A q c) := by simp [World.cell?, hfO]
  have o3 : wf.cell? ⟨w.heap.size + 1 + 1, 3, none⟩ = some (.int .u64 RZ) := by simp [World.cell?, hfO]
  have o4 : wf.cell? ⟨w.heap.size + 1 + 1, 4, none⟩ = some (.slice X0 n y0) := by simp [World.cell?, hfO]
  have o5 : wf.cell? ⟨w.heap.size + 1 + 1, 5, none⟩ = some (.slice X1 n y1) := by simp [World.cell?, hfO]
  have p0 : wf.cell? ⟨w.heap.size + 1 + 1 + 1, 0, none⟩ = some (.int .u64 rN) := by simp [World.cell?, hfP]
  have p1 : wf.cell? ⟨w.heap.size + 1 + 1 + 1, 1, none⟩ = some (.slice E qb eb) := by simp [World.cell?, hfP]
  have p2 : wf.cell? ⟨w.heap.size + 1 + 1 + 1, 2, none⟩ = some (.bool rf) := by simp [World.cell?, hfP]
  refine bodyPost_ret (v := .tuple #[.agg #[.int .i64 T, .int .i64 C, .slice A q c, .int .u64 RZ, .slice X0 n y0, .slice X1 n y1], .agg #[.int .u64 rN, .slice E qb eb, .bool rf]]) (by simp [results, Try.results20, go_sem, o0, o1, o2, o3, o4, o5, p0, p1, p2]) rfl ⟨_, _, rfl, ⟨_, _, _, _, _, _, _, rfl, hfw, hfd⟩, ⟨_, _, _, rfl, hfb⟩, hF⟩
set_option maxRecDepth 100000 in
set_option maxHeartbeats 1000000 in
theorem do_inst_no (T C : Int) (A : Option Addr) (q c : Nat) (ws : List Int) (RN n : Nat) (A0 A1 : Option Addr) (c0 c1 : Nat) (K0 K1 : List Key) (me k ce a b : Int) (D : Option Addr) (m cd : Nat) (B : Option Addr) (q2 cb : Nat) (dat : List UInt8) (wd : List Int) (w : World) (hA : WordsV w A q c ws) (hd : DkK w (.agg #[.int .u64 (RN : Int), .slice A0 n c0, .slice A1 n c1]) (RN : Int) n K0 K1)
  (hB : BytesV w D m cd dat) (hwd : WordsV w B q2 cb wd) (ha : 0 ≤ a ∧ a < 18446744073709551616) (hb : 0 ≤ b ∧ b < 18446744073709551616) {mF : Nat} (hF : Fit ⟨T, C, ws, RN, n, K0, K1⟩ mF) (fl : Bool) (hk : diskKind 13 = false) (hne : ¬ wd.length = ws.length) :
  Calls Try.prog 20 #[.agg #[.int .i64 T, .int .i64 C, .slice A q c, .int .u64 (RN : Int), .slice A0 n c0, .slice A1 n c1], .int .i64 me, .agg #[.int .i64 13, .int .i64 ce, .int .u64 a, .int .u64 b, .slice D m cd, .slice B q2 cb], .bool fl] w (DoPost (⟨T, C, ws, RN, n, K0, K1⟩ : WldK) ResK.zero w) := by
 have hlen := hA.len
 have hlen2 := hwd.len
 have hpos : 0 < n := hF.pos
 have hn : n ≤ 64 := hF.le
 have hR : RN < 18446744073709551616 := by have := hF.root.2; simp only at this; omega
 have hws2 : 2 ≤ ws.length := hF.ws.1
 have hws6 : ws.length ≤ 65536 := hF.ws.2
 have hm0 : ∀ x ∈ K0, x.1.length + mF ≤ 65536 := hF.k0
 have hm1 : ∀ x ∈ K1, x.1.length + mF ≤ 65536 := hF.k1
 clear hF
 go_enter Try.func20, Try.ntmps20
 go_upto_region 3 with (fail)
 obtain ⟨hW, hE, hG, hO, hP, hQ⟩ := boxes5 w (.cells #[.int .i64 T, .int .i64 C, .slice A q c, .int .u64 (RN : Int), .slice A0 n c0, .slice A1 n c1] 32) (.cells #[.int .i64 13, .int .i64 ce, .int .u64 a, .int .u64 b, .slice D m cd, .slice B q2 cb] 42) (.cells #[.int .i64 0, .int .i64 0, .slice none 0 0, .int .u64 0, .slice none 0 0, .slice none 0 0] 32) (.cells #[.int .u64 0, .slice none 0 0, .bool false] 51) (.cells #[.int .u64 0, .slice none 0 0, .bool false] 51)
 generalize ((((w.alloc (.cells #[.int .i64 T, .int .i64 C, .slice A q c, .int .u64 (RN : Int), .slice A0 n c0, .slice A1 n c1] 32)).alloc (.cells #[.int .i64 13, .int .i64 ce, .int .u64 a, .int .u64 b, .slice D m cd, .slice B q2 cb] 42)).alloc (.cells #[.int .i64 0, .int .i64 0, .slice none 0 0, .int .u64 0, .slice none 0 0, .slice none 0 0] 32)).alloc (.cells #[.int .u64 0, .slice none 0 0, .bool false] 51)).alloc (.cells #[.int .u64 0, .slice none 0 0, .bool false] 51) = W at *
 have hlt : w.heap.size + 1 + 1 + 1 + 1 < W.heap.size := (Array.getElem?_eq_some_iff.1 hQ).1
 have e0 : W.cell? ⟨w.heap.size, 0, none⟩ = some (.int .i64 T) := by simp [World.cell?, hE]
 have ef0 : W.frozen? ⟨w.heap.size, 0, none⟩ = false := by simp [World.frozen?, hE]
 have e1 : W.cell? ⟨w.heap.size, 1, none⟩ = some (.int .i64 C) := by simp [World.cell?, hE]
 have ef1 : W.frozen? ⟨w.heap.size, 1, none⟩ = false := by simp [World.frozen?, hE]
 have e2 : W.cell? ⟨w.heap.size, 2, none⟩ = some (.slice A q c) := by simp [World.cell?, hE]
 have ef2 : W.frozen? ⟨w.heap.size, 2, none⟩ = false := by simp [World.frozen?, hE]
 have e3 : W.cell? ⟨w.heap.size, 3, none⟩ = some (.int .u64 (RN : Int)) := by simp [World.cell?, hE]
 have ef3 : W.frozen? ⟨w.heap.size, 3, none⟩ = false := by simp [World.frozen?, hE]
 have e4 : W.cell? ⟨w.heap.size, 4, none⟩ = some (.slice A0 n c0) := by simp [World.cell?, hE]
 have ef4 : W.frozen? ⟨w.heap.size, 4, none⟩ = false := by simp [World.frozen?, hE]
 have e5 : W.cell? ⟨w.heap.size, 5, none⟩ = some (.slice A1 n c1) := by simp [World.cell?, hE]
 have ef5 : W.frozen? ⟨w.heap.size, 5, none⟩ = false := by simp [World.frozen?, hE]
 have g0 : W.cell? ⟨w.heap.size + 1, 0, none⟩ = some (.int .i64 13) := by simp [World.cell?, hG]
 have g1 : W.cell? ⟨w.heap.size + 1, 1, none⟩ = some (.int .i64 ce) := by simp [World.cell?, hG]
 have g2 : W.cell? ⟨w.heap.size + 1, 2, none⟩ = some (.int .u64 a) := by simp [World.cell?, hG]
 have g3 : W.cell? ⟨w.heap.size + 1, 3, none⟩ = some (.int .u64 b) := by simp [World.cell?, hG]
 have g4 : W.cell? ⟨w.heap.size + 1, 4, none⟩ = some (.slice D m cd) := by simp [World.cell?, hG]
 have g5 : W.cell? ⟨w.heap.size + 1, 5, none⟩ = some (.slice B q2 cb) := by simp [World.cell?, hG]
 have z0 : W.cell? ⟨w.heap.size + 1 + 1 + 1 + 1, 0, none⟩ = some (.int .u64 0) := by simp [World.cell?, hQ]
 have zf0 : W.frozen? ⟨w.heap.size + 1 + 1 + 1 + 1, 0, none⟩ = false := by simp [World.frozen?, hQ]
 have z1 : W.cell? ⟨w.heap.size + 1 + 1 + 1 + 1, 1, none⟩ = some (.slice none 0 0) := by simp [World.cell?, hQ]
 have zf1 : W.frozen? ⟨w.heap.size + 1 + 1 + 1 + 1, 1, none⟩ = false := by simp [World.frozen?, hQ]
 have z2 : W.cell? ⟨w.heap.size + 1 + 1 + 1 + 1, 2, none⟩ = some (.bool false) := by simp [World.cell?, hQ]
 have zf2 : W.frozen? ⟨w.heap.size + 1 + 1 + 1 + 1, 2, none⟩ = false := by simp [World.frozen?, hQ]
 go_wp2_with fail
 refine (adisk_any 13 _).mono ?_
 rintro e w1 ⟨rfl, rfl⟩
 rw [hk]
 go_wp2_with fail
 refine (adisk_any 13 _).mono ?_
 rintro e w1 ⟨rfl, rfl⟩
 rw [hk]
 have hq2 : ¬ (q2 : Int) = (q : Int) := by omega
 go_upto_region 10 with (fail)
 have hE3 := hE
 have hO3 := hO
 have hP3 := hP
 have hQ3 := hQ
 have hW3 := hW
 clear e0 e1 e2 e3 e4 e5 ef0 ef1 ef2 ef3 ef4 ef5 g0 g1 g2 g3 g4 g5 z0 z1 z2 zf0 zf1 zf2
 clear hE hG hO hP hQ hW
 have hdk := hd.ext hW3
 have hwv := hA.ext hW3
 have hby := bytes_nil W
 have hwl := hws2
 have HE := Lib.hid hE3
 have HO := Lib.hid hO3
 have HP := Lib.hid hP3
 have HQ := Lib.hid hQ3
 have HW := Lib.hid hW3
 clear hE3 hO3 hP3 hQ3 hW3 hlt
 obtain ⟨gOO, hOO⟩ : ∃ g, g = w.heap.size + 1 + 1 := ⟨_, rfl⟩
 refine' SB.wp_region_sure (gx := [(2, gOO)]) (Pn := fun _ _ => False) ⟨[(some 57, [], none), (some 58, [], none), (none, [0, 0], none), (none, [1, 2, 0, 1, 2], none)], [0, 0, 1, 7], [none, none, some []], [2]⟩ 3 59 [(0, 57), (1, 58)] [(0, 57), (1, 58)] [.det _, .det _, SB.Good.of (fun v w => w.heap[gOO]? = some (.cells #[.int .i64 T, .int .i64 C, .slice A q c, .int .u64 (RN : Int), .slice A0 n c0, .slice A1 n c1] 32 (0, 0))) (fun v w w' h hx => heap_ext h hx)] (by kernel_rfl) ?hpan (by kernel_rfl) (by kernel_rfl) rfl (by kernel_rfl) (by kernel_rfl) rfl ?hone ?hend
 case hpan =>
  intro _ _ _ _ h; exact h.elim
 case hone =>
  intro CS frS VS hCS ha hV
  have qs4 := slot_val (t := 4) ha rfl
  simp only [List.getElem_toArray, List.getElem_cons_succ, List.getElem_cons_zero] at qs4
  have qs8 := slot_val (t := 8) ha rfl
  simp only [List.getElem_toArray, List.getElem_cons_succ, List.getElem_cons_zero] at qs8
  have qs10 := slot_val (t := 10) ha rfl
  simp only [List.getElem_toArray, List.getElem_cons_succ, List.getElem_cons_zero] at qs10
  have HCS := Lib.hid hCS
  have HVS := Lib.hid hV
  clear ha hCS hV
  refine SB.sure_det (js := []) (ts := [4]) (gd := none) (bs := []) (SB.place_at HVS.out (k := 0) rfl) (by rw [HCS.out]; kernel_rfl) (by rw [HCS.out]; kernel_rfl) ?_ ?_
  ·intro wx hx ρ hρ hs hf; have hρc := hρ.const; have hρf := hρ.func
   obtain ⟨fx4, -⟩ := hf; rw [qs4] at fx4
   clear hs
   clear HCS HVS qs4 qs8 qs10
   refine SB.run_plain ?_
   have hgd : wx.heap[w.heap.size]? = some (.cells #[.int .i64 T, .int .i64 C, .slice A q c, .int .u64 (RN : Int), .slice A0 n c0, .slice A1 n c1] 32 (0, 0)) := hx.heap HE.out (by simp)
   have hd0 : wx.cell? ⟨w.heap.size, 0, none⟩ = some (.int .i64 T) := by simp [World.cell?, hgd]
   have hd1 : wx.cell? ⟨w.heap.size, 1, none⟩ = some (.int .i64 C) := by simp [World.cell?, hgd]
   have hd2 : wx.cell? ⟨w.heap.size, 2, none⟩ = some (.slice A q c) := by simp [World.cell?, hgd]
   have hd3 : wx.cell? ⟨w.heap.size, 3, none⟩ = some (.int .u64 (RN : Int)) := by simp [World.cell?, hgd]
   have hd4 : wx.cell? ⟨w.heap.size, 4, none⟩ = some (.slice A0 n c0) := by simp [World.cell?, hgd]
   have hd5 : wx.cell? ⟨w.heap.size, 5, none⟩ = some (.slice A1 n c1) := by simp [World.cell?, hgd]
   unfold SB.runs
   go_simp
   exact SB.detK.mk
  refine SB.sure_det (js := []) (ts := [10]) (gd := none) (bs := [gOO]) (SB.place_at HVS.out (k := 1) rfl) (by rw [HCS.out]; kernel_rfl) (by rw [HCS.out]; kernel_rfl) ?_ ?_
  ·intro wx hx ρ hρ hs hf; have hρc := hρ.const; have hρf := hρ.func
   obtain ⟨fx10, -⟩ := hf; rw [qs10] at fx10
   clear hs
   clear HCS HVS qs4 qs8 qs10
   refine SB.run_plain ?_
   have hgd : wx.heap[w.heap.size + 1 + 1 + 1 + 1]? = some (.cells #[.int .u64 0, .slice none 0 0, .bool false] 51 (0, 0)) := hx.heap HQ.out (by simp; omega)
   have hd0 : wx.cell? ⟨w.heap.size + 1 + 1 + 1 + 1, 0, none⟩ = some (.int .u64 0) := by simp [World.cell?, hgd]
   have hd1 : wx.cell? ⟨w.heap.size + 1 + 1 + 1 + 1, 1, none⟩ = some (.slice none 0 0) := by simp [World.cell?, hgd]
   have hd2 : wx.cell? ⟨w.heap.size + 1 + 1 + 1 + 1, 2, none⟩ = some (.bool false) := by simp [World.cell?, hgd]
   unfold SB.runs
   go_simp
   exact SB.detK.mk
  refine SB.sure_wild (js := [(0, 57)]) (ts := [8]) (gd := none) (bs := []) (cs := [gOO]) (SB.place_at HVS.out (k := 2) rfl) (by rw [HCS.out]; kernel_rfl) (by rw [HCS.out]; kernel_rfl) rfl ?_ ?_
  ·intro wx hx ρ hρ hs hf; have hρc := hρ.const; have hρf := hρ.func; obtain ⟨sn0, -⟩ := hs
   obtain ⟨fx8, -⟩ := hf; rw [qs8] at fx8
   rw [SB.place_at HVS.out (k := 0) rfl] at sn0; replace sn0 : ρ (.tmp 57) = _ := sn0
   clear HCS HVS qs4 qs8 qs10
   refine SB.run_plain ?_
   subst hOO
   have hg : wx.heap[w.heap.size + 1 + 1]? = some (.cells #[.int .i64 0, .int .i64 0, .slice none 0 0, .int .u64 0, .slice none 0 0, .slice none 0 0] 32 (0, 0)) := hx.heap HO.out (by simp)
   have f0 : wx.frozen? ⟨w.heap.size + 1 + 1, 0, none⟩ = false := by simp [World.frozen?, hg]
   have c0' : wx.cell? ⟨w.heap.size + 1 + 1, 0, none⟩ = some (.int .i64 0) := by simp [World.cell?, hg]
   have f1 : wx.frozen? ⟨w.heap.size + 1 + 1, 1, none⟩ = false := by simp [World.frozen?, hg]
   have c1' : wx.cell? ⟨w.heap.size + 1 + 1, 1, none⟩ = some (.int .i64 0) := by simp [World.cell?, hg]
   have f2 : wx.frozen? ⟨w.heap.size + 1 + 1, 2, none⟩ = false := by simp [World.frozen?, hg]
   have c2' : wx.cell? ⟨w.heap.size + 1 + 1, 2, none⟩ = some (.slice none 0 0) := by simp [World.cell?, hg]
   have f3 : wx.frozen? ⟨w.heap.size + 1 + 1, 3, none⟩ = false := by simp [World.frozen?, hg]
   have c3' : wx.cell? ⟨w.heap.size + 1 + 1, 3, none⟩ = some (.int .u64 0) := by simp [World.cell?, hg]
   have f4 : wx.frozen? ⟨w.heap.size + 1 + 1, 4, none⟩ = false := by simp [World.frozen?, hg]
   have c4' : wx.cell? ⟨w.heap.size + 1 + 1, 4, none⟩ = some (.slice none 0 0) := by simp [World.cell?, hg]
   have f5 : wx.frozen? ⟨w.heap.size + 1 + 1, 5, none⟩ = false := by simp [World.frozen?, hg]
   have c5' : wx.cell? ⟨w.heap.size + 1 + 1, 5, none⟩ = some (.slice none 0 0) := by simp [World.cell?, hg]
   unfold SB.runs
   go_simp
   exact ⟨.ofB (((((((ExtB.refl _ _).set _ _).set _ _).set _ _).set _ _).set _ _).set _ _) (by simp), setAll_all (vs := [.int .i64 T, .int .i64 C, .slice A q c, .int .u64 (RN : Int), .slice A0 n c0, .slice A1 n c1]) hg rfl⟩
  exact trivial
 case hend =>
  intro xs wx hx hg hq
  have gk0 : xs 0 = _ := SB.goods_get hg (i := 0) (j := 0) (d := 57) rfl
  have gk1 : xs 1 = _ := SB.goods_get hg (i := 1) (j := 1) (d := 58) rfl
  obtain ⟨-, gk2⟩ : ∃ v : Value, wx.heap[gOO]? = some (.cells #[.int .i64 T, .int .i64 C, .slice A q c, .int .u64 (RN : Int), .slice A0 n c0, .slice A1 n c1] 32 (0, 0)) := hq 2 (by decide) (by kernel_rfl)
  clear hg hq
  simp only [putAll, gk0, gk1]
  clear gk0 gk1
  clear xs
  simp only [Act.put, List.setIfInBounds_toArray, List.set_cons_zero, List.set_cons_succ, List.drop_succ_cons, List.drop_zero]
  subst hOO
  have hgO := gk2
  have hxs : SB.ExtS [w.heap.size + 1 + 1] W.drew wx := hx
  have hbut : But (w.heap.size + 1 + 1) W wx := But.exts hxs
  have hgP : wx.heap[w.heap.size + 1 + 1 + 1]? = some (.cells #[.int .u64 0, .slice none 0 0, .bool false] 51 (0, 0)) := hbut _ _ (by omega) HP.out
  have hWx : Ext w wx := extS_base HW.out hxs (by omega)
  replace hdk := hdk.but hbut HO.out rfl
  replace hby := BytesV.but hby hbut HO.out rfl
  replace hwv := WordsV.but hwv hwl hbut HO.out rfl
  have hF : Ext w (((wx.setCell ⟨w.heap.size + 1 + 1 + 1, 0, none⟩ (.int .u64 0)).setCell ⟨w.heap.size + 1 + 1 + 1, 1, none⟩ (.slice none 0 0)).setCell ⟨w.heap.size + 1 + 1 + 1, 2, none⟩ (.bool false)) := setAll_ext (g := w.heap.size + 1 + 1 + 1) (vs := [.int .u64 0, .slice none 0 0, .bool false]) (i := 0) hWx (by omega)
  have hfP : (((wx.setCell ⟨w.heap.size + 1 + 1 + 1, 0, none⟩ (.int .u64 0)).setCell ⟨w.heap.size + 1 + 1 + 1, 1, none⟩ (.slice none 0 0)).setCell ⟨w.heap.size + 1 + 1 + 1, 2, none⟩ (.bool false)).heap[w.heap.size + 1 + 1 + 1]? = some (.cells #[.int .u64 0, .slice none 0 0, .bool false] 51 (0, 0)) := setAll_all (vs := [.int .u64 0, .slice none 0 0, .bool false]) hgP rfl
  have hfO : (((wx.setCell ⟨w.heap.size + 1 + 1 + 1, 0, none⟩ (.int .u64 0)).setCell ⟨w.heap.size + 1 + 1 + 1, 1, none⟩ (.slice none 0 0)).setCell ⟨w.heap.size + 1 + 1 + 1, 2, none⟩ (.bool false)).heap[w.heap.size + 1 + 1]? = some (.cells #[.int .i64 T, .int .i64 C, .slice A q c, .int .u64 (RN : Int), .slice A0 n c0, .slice A1 n c1] 32 (0, 0)) := (setAll_other (g := w.heap.size + 1 + 1 + 1) (by omega) [.int .u64 0, .slice none 0 0, .bool false] 0 wx).trans hgO
  have hfd := hdk.but (But.all (w.heap.size + 1 + 1 + 1) [.int .u64 0, .slice none 0 0, .bool false] 0 wx) hgP rfl
  have hfb := BytesV.but hby (But.all (w.heap.size + 1 + 1 + 1) [.int .u64 0, .slice none 0 0, .bool false] 0 wx) hgP rfl
  have hfw := WordsV.but hwv hwl (But.all (w.heap.size + 1 + 1 + 1) [.int .u64 0, .slice none 0 0, .bool false] 0 wx) hgP rfl
  change DkK (((wx.setCell ⟨w.heap.size + 1 + 1 + 1, 0, none⟩ (.int .u64 0)).setCell ⟨w.heap.size + 1 + 1 + 1, 1, none⟩ (.slice none 0 0)).setCell ⟨w.heap.size + 1 + 1 + 1, 2, none⟩ (.bool false)) _ _ _ _ _ at hfd
  change BytesV (((wx.setCell ⟨w.heap.size + 1 + 1 + 1, 0, none⟩ (.int .u64 0)).setCell ⟨w.heap.size + 1 + 1 + 1, 1, none⟩ (.slice none 0 0)).setCell ⟨w.heap.size + 1 + 1 + 1, 2, none⟩ (.bool false)) _ _ _ _ at hfb
  change WordsV (((wx.setCell ⟨w.heap.size + 1 + 1 + 1, 0, none⟩ (.int .u64 0)).setCell ⟨w.heap.size + 1 + 1 + 1, 1, none⟩ (.slice none 0 0)).setCell ⟨w.heap.size + 1 + 1 + 1, 2, none⟩ (.bool false)) _ _ _ _ at hfw
  have p0 : wx.cell? ⟨w.heap.size + 1 + 1 + 1, 0, none⟩ = some (.int .u64 0) := by simp [World.cell?, hgP]
  have pf0 : wx.frozen? ⟨w.heap.size + 1 + 1 + 1, 0, none⟩ = false := by simp [World.frozen?, hgP]
  have p1 : wx.cell? ⟨w.heap.size + 1 + 1 + 1, 1, none⟩ = some (.slice none 0 0) := by simp [World.cell?, hgP]
  have pf1 : wx.frozen? ⟨w.heap.size + 1 + 1 + 1, 1, none⟩ = false := by simp [World.frozen?, hgP]
  have p2 : wx.cell? ⟨w.heap.size + 1 + 1 + 1, 2, none⟩ = some (.bool false) := by simp [World.cell?, hgP]
  have pf2 : wx.frozen? ⟨w.heap.size + 1 + 1 + 1, 2, none⟩ = false := by simp [World.frozen?, hgP]
  clear hx hxs hbut hdk hby hwv
  go_wp2
  generalize (((wx.setCell ⟨w.heap.size + 1 + 1 + 1, 0, none⟩ (.int .u64 0)).setCell ⟨w.heap.size + 1 + 1 + 1, 1, none⟩ (.slice none 0 0)).setCell ⟨w.heap.size + 1 + 1 + 1, 2, none⟩ (.bool false)) = wf at *
  clear p0 p1 p2 pf0 pf1 pf2
  have o0 : wf.cell? ⟨w.heap.size + 1 + 1, 0, none⟩ = some (.int .i64 T) := by simp [World.cell?, hfO]
  have o1 : wf.cell? ⟨w.heap.size + 1 + 1, 1, none⟩ = some (.int .i64 C) := by simp [World.cell?, hfO]
  have o2 : wf.cell? ⟨w.heap.size + 1 + 1, 2, none⟩ = some (.slice A q c) := by simp [World.cell?, hfO]
  have o3 : wf.cell? ⟨w.heap.size + 1 + 1, 3, none⟩ = some (.int .u64 (RN : Int)) := by simp [World.cell?, hfO]
  have o4 : wf.cell? ⟨w.heap.size + 1 + 1, 4, none⟩ = some (.slice A0 n c0) := by simp [World.cell?, hfO]
  have o5 : wf.cell? ⟨w.heap.size + 1 + 1, 5, none⟩ = some (.slice A1 n c1) := by simp [World.cell?, hfO]
  have p0 : wf.cell? ⟨w.heap.size + 1 + 1 + 1, 0, none⟩ = some (.int .u64 0) := by simp [World.cell?, hfP]
  have p1 : wf.cell? ⟨w.heap.size + 1 + 1 + 1, 1, none⟩ = some (.slice none 0 0) := by simp [World.cell?, hfP]
  have p2 : wf.cell? ⟨w.heap.size + 1 + 1 + 1, 2, none⟩ = some (.bool false) := by simp [World.cell?, hfP]
  refine bodyPost_ret (v := .tuple #[.agg #[.int .i64 T, .int .i64 C, .slice A q c, .int .u64 (RN : Int), .slice A0 n c0, .slice A1 n c1], .agg #[.int .u64 0, .slice none 0 0, .bool false]]) (by simp [results, Try.results20, go_sem, o0, o1, o2, o3, o4, o5, p0, p1, p2]) rfl ⟨_, _, rfl, ⟨_, _, _, _, _, _, _, rfl, hfw, hfd⟩, ⟨_, _, _, rfl, hfb⟩, hF⟩
set_option maxRecDepth 100000 in
set_option maxHeartbeats 1000000 in
theorem do_inst_yes (T C : Int) (A : Option Addr) (q c : Nat) (ws : List Int) (RN n : Nat) (A0 A1 : Option Addr) (c0 c1 : Nat) (K0 K1 : List Key) (me k ce a b : Int) (D : Option Addr) (m cd : Nat) (B : Option Addr) (q2 cb : Nat) (dat : List UInt8) (wd : List Int) (w : World) (hA : WordsV w A q c ws) (hd : DkK w (.agg #[.int .u64 (RN : Int), .slice A0 n c0, .slice A1 n c1]) (RN : Int) n K0 K1)
  (hB : BytesV w D m cd dat) (hwd : WordsV w B q2 cb wd) (ha : 0 ≤ a ∧ a < 18446744073709551616) (hb : 0 ≤ b ∧ b < 18446744073709551616) {mF : Nat} (hF : Fit ⟨T, C, ws, RN, n, K0, K1⟩ mF) (fl : Bool) (hk : diskKind 13 = false) (hne : wd.length = ws.length) :
  Calls Try.prog 20 #[.agg #[.int .i64 T, .int .i64 C, .slice A q c, .int .u64 (RN : Int), .slice A0 n c0, .slice A1 n c1], .int .i64 me, .agg #[.int .i64 13, .int .i64 ce, .int .u64 a, .int .u64 b, .slice D m cd, .slice B q2 cb], .bool fl] w (DoPost (⟨T, C, wd, RN, n, K0, K1⟩ : WldK) ResK.zero w) := by
 have hlen := hA.len
 have hlen2 := hwd.len
 have hpos : 0 < n := hF.pos
 have hn : n ≤ 64 := hF.le
 have hR : RN < 18446744073709551616 := by have := hF.root.2; simp only at this; omega
 have hws2 : 2 ≤ ws.length := hF.ws.1
 have hws6 : ws.length ≤ 65536 := hF.ws.2
 have hm0 : ∀ x ∈ K0, x.1.length + mF ≤ 65536 := hF.k0
 have hm1 : ∀ x ∈ K1, x.1.length + mF ≤ 65536 := hF.k1
 clear hF
 go_enter Try.func20, Try.ntmps20
 go_upto_region 3 with (fail)
 obtain ⟨hW, hE, hG, hO, hP, hQ⟩ := boxes5 w (.cells #[.int .i64 T, .int .i64 C, .slice A q c, .int .u64 (RN : Int), .slice A0 n c0, .slice A1 n c1] 32) (.cells #[.int .i64 13, .int .i64 ce, .int .u64 a, .int .u64 b, .slice D m cd, .slice B q2 cb] 42) (.cells #[.int .i64 0, .int .i64 0, .slice none 0 0, .int .u64 0, .slice none 0 0, .slice none 0 0] 32) (.cells #[.int .u64 0, .slice none 0 0, .bool false] 51) (.cells #[.int .u64 0, .slice none 0 0, .bool false] 51)
 generalize ((((w.alloc (.cells #[.int .i64 T, .int .i64 C, .slice A q c, .int .u64 (RN : Int), .slice A0 n c0, .slice A1 n c1] 32)).alloc (.cells #[.int .i64 13, .int .i64 ce, .int .u64 a, .int .u64 b, .slice D m cd, .slice B q2 cb] 42)).alloc (.cells #[.int .i64 0, .int .i64 0, .slice none 0 0, .int .u64 0, .slice none 0 0, .slice none 0 0] 32)).alloc (.cells #[.int .u64 0, .slice none 0 0, .bool false] 51)).alloc (.cells #[.int .u64 0, .slice none 0 0, .bool false] 51) = W at *
 have hlt : w.heap.size + 1 + 1 + 1 + 1 < W.heap.size := (Array.getElem?_eq_some_iff.1 hQ).1
 have e0 : W.cell? ⟨w.heap.size, 0, none⟩ = some (.int .i64 T) := by simp [World.cell?, hE]
 have ef0 : W.frozen? ⟨w.heap.size, 0, none⟩ = false := by simp [World.frozen?, hE]
 have e1 : W.cell? ⟨w.heap.size, 1, none⟩ = some (.int .i64 C) := by simp [World.cell?, hE]
 have ef1 : W.frozen? ⟨w.heap.size, 1, none⟩ = false := by simp [World.frozen?, hE]
 have e2 : W.cell? ⟨w.heap.size, 2, none⟩ = some (.slice A q c) := by simp [World.cell?, hE]
 have ef2 : W.frozen? ⟨w.heap.size, 2, none⟩ = false := by simp [World.frozen?, hE]
 have e3 : W.cell? ⟨w.heap.size, 3, none⟩ = some (.int .u64 (RN : Int)) := by simp [World.cell?, hE]
 have ef3 : W.frozen? ⟨w.heap.size, 3, none⟩ = false := by simp [World.frozen?, hE]
 have e4 : W.cell? ⟨w.heap.size, 4, none⟩ = some (.slice A0 n c0) := by simp [World.cell?, hE]
 have ef4 : W.frozen? ⟨w.heap.size, 4, none⟩ = false := by simp [World.frozen?, hE]
 have e5 : W.cell? ⟨w.heap.size, 5, none⟩ = some (.slice A1 n c1) := by simp [World.cell?, hE]
 have ef5 : W.frozen? ⟨w.heap.size, 5, none⟩ = false := by simp [World.frozen?, hE]
 have g0 : W.cell? ⟨w.heap.size + 1, 0, none⟩ = some (.int .i64 13) := by simp [World.cell?, hG]
 have g1 : W.cell? ⟨w.heap.size + 1, 1, none⟩ = some (.int .i64 ce) := by simp [World.cell?, hG]
 have g2 : W.cell? ⟨w.heap.size + 1, 2, none⟩ = some (.int .u64 a) := by simp [World.cell?, hG]
 have g3 : W.cell? ⟨w.heap.size + 1, 3, none⟩ = some (.int .u64 b) := by simp [World.cell?, hG]
 have g4 : W.cell? ⟨w.heap.size + 1, 4, none⟩ = some (.slice D m cd) := by simp [World.cell?, hG]
 have g5 : W.cell? ⟨w.heap.size + 1, 5, none⟩ = some (.slice B q2 cb) := by simp [World.cell?, hG]
 have z0 : W.cell? ⟨w.heap.size + 1 + 1 + 1 + 1, 0, none⟩ = some (.int .u64 0) := by simp [World.cell?, hQ]
 have zf0 : W.frozen? ⟨w.heap.size + 1 + 1 + 1 + 1, 0, none⟩ = false := by simp [World.frozen?, hQ]
 have z1 : W.cell? ⟨w.heap.size + 1 + 1 + 1 + 1, 1, none⟩ = some (.slice none 0 0) := by simp [World.cell?, hQ]
 have zf1 : W.frozen? ⟨w.heap.size + 1 + 1 + 1 + 1, 1, none⟩ = false := by simp [World.frozen?, hQ]
 have z2 : W.cell? ⟨w.heap.size + 1 + 1 + 1 + 1, 2, none⟩ = some (.bool false) := by simp [World.cell?, hQ]
 have zf2 : W.frozen? ⟨w.heap.size + 1 + 1 + 1 + 1, 2, none⟩ = false := by simp [World.frozen?, hQ]
 go_wp2_with fail
 refine (adisk_any 13 _).mono ?_
 rintro e w1 ⟨rfl, rfl⟩
 rw [hk]
 go_wp2_with fail
 refine (adisk_any 13 _).mono ?_
 rintro e w1 ⟨rfl, rfl⟩
 rw [hk]
 obtain rfl : q2 = q := by omega
 go_wp2_with fail
 refine (clone_words B q2 cb wd _ (hwd.ext hW) (by omega) (by omega)).mono ?_
 rintro e w3 ⟨gN, cN, rfl, hown, hx⟩
 replace hE := heap_ext hE hx
 replace hG := heap_ext hG hx
 replace hO := heap_ext hO hx
 replace hP := heap_ext hP hx
 replace hQ := heap_ext hQ hx
 replace hW := hW.trans hx
 clear e0 e1 e2 e3 e4 e5 ef0 ef1 ef2 ef3 ef4 ef5 g0 g1 g2 g3 g4 g5 z0 z1 z2 zf0 zf1 zf2
 clear hx
 obtain ⟨hgN1, hgN2⟩ := hown.base
 have e0 : w3.cell? ⟨w.heap.size, 0, none⟩ = some (.int .i64 T) := by simp [World.cell?, hE]
 have ef0 : w3.frozen? ⟨w.heap.size, 0, none⟩ = false := by simp [World.frozen?, hE]
 have e1 : w3.cell? ⟨w.heap.size, 1, none⟩ = some (.int .i64 C) := by simp [World.cell?, hE]
 have ef1 : w3.frozen? ⟨w.heap.size, 1, none⟩ = false := by simp [World.frozen?, hE]
 have e2 : w3.cell? ⟨w.heap.size, 2, none⟩ = some (.slice A q2 c) := by simp [World.cell?, hE]
 have ef2 : w3.frozen? ⟨w.heap.size, 2, none⟩ = false := by simp [World.frozen?, hE]
 have e3 : w3.cell? ⟨w.heap.size, 3, none⟩ = some (.int .u64 (RN : Int)) := by simp [World.cell?, hE]
 have ef3 : w3.frozen? ⟨w.heap.size, 3, none⟩ = false := by simp [World.frozen?, hE]
 have e4 : w3.cell? ⟨w.heap.size, 4, none⟩ = some (.slice A0 n c0) := by simp [World.cell?, hE]
 have ef4 : w3.frozen? ⟨w.heap.size, 4, none⟩ = false := by simp [World.frozen?, hE]
 have e5 : w3.cell? ⟨w.heap.size, 5, none⟩ = some (.slice A1 n c1) := by simp [World.cell?, hE]
 have ef5 : w3.frozen? ⟨w.heap.size, 5, none⟩ = false := by simp [World.frozen?, hE]
 go_upto_region 10 with (fail)
 have hE3 : (w3.setCell ⟨w.heap.size, 2, none⟩ (.slice (some ⟨gN, 0, none⟩) q2 cN)).heap[w.heap.size]? = some (.cells #[.int .i64 T, .int .i64 C, .slice (some ⟨gN, 0, none⟩) q2 cN, .int .u64 (RN : Int), .slice A0 n c0, .slice A1 n c1] 32 (0, 0)) := heap_setCell_at hE
 have hO3 : (w3.setCell ⟨w.heap.size, 2, none⟩ (.slice (some ⟨gN, 0, none⟩) q2 cN)).heap[w.heap.size + 1 + 1]? = some (.cells #[.int .i64 0, .int .i64 0, .slice none 0 0, .int .u64 0, .slice none 0 0, .slice none 0 0] 32 (0, 0)) := (Below.heap_setCell _ _ _ _ (by simp <;> omega)).trans hO
 have hP3 : (w3.setCell ⟨w.heap.size, 2, none⟩ (.slice (some ⟨gN, 0, none⟩) q2 cN)).heap[w.heap.size + 1 + 1 + 1]? = some (.cells #[.int .u64 0, .slice none 0 0, .bool false] 51 (0, 0)) := (Below.heap_setCell _ _ _ _ (by simp <;> omega)).trans hP
 have hQ3 : (w3.setCell ⟨w.heap.size, 2, none⟩ (.slice (some ⟨gN, 0, none⟩) q2 cN)).heap[w.heap.size + 1 + 1 + 1 + 1]? = some (.cells #[.int .u64 0, .slice none 0 0, .bool false] 51 (0, 0)) := (Below.heap_setCell _ _ _ _ (by simp <;> omega)).trans hQ
 have hW3 : Ext w (w3.setCell ⟨w.heap.size, 2, none⟩ (.slice (some ⟨gN, 0, none⟩) q2 cN)) := hW.setCell (Nat.le_refl _) _
 have hwl : 2 ≤ wd.length := by omega
 have hwv := (hown.kept (Below.heap_setCell w3 ⟨w.heap.size, 2, none⟩ (.slice (some ⟨gN, 0, none⟩) q2 cN) gN (by simp; omega))).v hwd.rng
 rw [hlen2] at hwv
 clear e0 e1 e2 e3 e4 e5 ef0 ef1 ef2 ef3 ef4 ef5 hE hG hO hP hQ hW hown
 generalize (w3.setCell ⟨w.heap.size, 2, none⟩ (.slice (some ⟨gN, 0, none⟩) q2 cN)) = w4 at *
 have hdk := hd.ext hW3
 have hby := bytes_nil w4
 have HE := Lib.hid hE3
 have HO := Lib.hid hO3
 have HP := Lib.hid hP3
 have HQ := Lib.hid hQ3
 have HW := Lib.hid hW3
 clear hE3 hO3 hP3 hQ3 hW3 hlt
 obtain ⟨gOO, hOO⟩ : ∃ g, g = w.heap.size + 1 + 1 := ⟨_, rfl⟩
 refine' SB.wp_region_sure (gx := [(2, gOO)]) (Pn := fun _ _ => False) ⟨[(some 57, [], none), (some 58, [], none), (none, [0, 0], none), (none, [1, 2, 0, 1, 2], none)], [0, 0, 1, 7], [none, none, some []], [2]⟩ 3 59 [(0, 57), (1, 58)] [(0, 57), (1, 58)] [.det _, .det _, SB.Good.of (fun v w => w.heap[gOO]? = some (.cells #[.int .i64 T, .int .i64 C, .slice (some ⟨gN, 0, none⟩) q2 cN, .int .u64 (RN : Int), .slice A0 n c0, .slice A1 n c1] 32 (0, 0))) (fun v w w' h hx => heap_ext h hx)] (by kernel_rfl) ?hpan (by kernel_rfl) (by kernel_rfl) rfl (by kernel_rfl) (by kernel_rfl) rfl ?hone ?hend
 case hpan =>
  intro _ _ _ _ h; exact h.elim
 case hone =>
  intro CS frS VS hCS ha hV
  have qs4 := slot_val (t := 4) ha rfl
  simp only [List.getElem_toArray, List.getElem_cons_succ, List.getElem_cons_zero] at qs4
  have qs8 := slot_val (t := 8) ha rfl
  simp only [List.getElem_toArray, List.getElem_cons_succ, List.getElem_cons_zero] at qs8
  have qs10 := slot_val (t := 10) ha rfl
  simp only [List.getElem_toArray, List.getElem_cons_succ, List.getElem_cons_zero] at qs10
  have HCS := Lib.hid hCS
  have HVS := Lib.hid hV
  clear ha hCS hV
  refine SB.sure_det (js := []) (ts := [4]) (gd := none) (bs := []) (SB.place_at HVS.out (k := 0) rfl) (by rw [HCS.out]; kernel_rfl) (by rw [HCS.out]; kernel_rfl) ?_ ?_
  ·intro wx hx ρ hρ hs hf; have hρc := hρ.const; have hρf := hρ.func
   obtain ⟨fx4, -⟩ := hf; rw [qs4] at fx4
   clear hs
   clear HCS HVS qs4 qs8 qs10
   refine SB.run_plain ?_
   have hgd : wx.heap[w.heap.size]? = some (.cells #[.int .i64 T, .int .i64 C, .slice (some ⟨gN, 0, none⟩) q2 cN, .int .u64 (RN : Int), .slice A0 n c0, .slice A1 n c1] 32 (0, 0)) := hx.heap HE.out (by simp)
   have hd0 : wx.cell? ⟨w.heap.size, 0, none⟩ = some (.int .i64 T) := by simp [World.cell?, hgd]
   have hd1 : wx.cell? ⟨w.heap.size, 1, none⟩ = some (.int .i64 C) := by simp [World.cell?, hgd]
   have hd2 : wx.cell? ⟨w.heap.size, 2, none⟩ = some (.slice (some ⟨gN, 0, none⟩) q2 cN) := by simp [World.cell?, hgd]
   have hd3 : wx.cell? ⟨w.heap.size, 3, none⟩ = some (.int .u64 (RN : Int)) := by simp [World.cell?, hgd]
   have hd4 : wx.cell? ⟨w.heap.size, 4, none⟩ = some (.slice A0 n c0) := by simp [World.cell?, hgd]
   have hd5 : wx.cell? ⟨w.heap.size, 5, none⟩ = some (.slice A1 n c1) := by simp [World.cell?, hgd]
   unfold SB.runs
   go_simp
   exact SB.detK.mk
  refine SB.sure_det (js := []) (ts := [10]) (gd := none) (bs := [gOO]) (SB.place_at HVS.out (k := 1) rfl) (by rw [HCS.out]; kernel_rfl) (by rw [HCS.out]; kernel_rfl) ?_ ?_
  ·intro wx hx ρ hρ hs hf; have hρc := hρ.const; have hρf := hρ.func
   obtain ⟨fx10, -⟩ := hf; rw [qs10] at fx10
   clear hs
   clear HCS HVS qs4 qs8 qs10
   refine SB.run_plain ?_
   have hgd : wx.heap[w.heap.size + 1 + 1 + 1 + 1]? = some (.cells #[.int .u64 0, .slice none 0 0, .bool false] 51 (0, 0)) := hx.heap HQ.out (by simp; omega)
   have hd0 : wx.cell? ⟨w.heap.size + 1 + 1 + 1 + 1, 0, none⟩ = some (.int .u64 0) := by simp [World.cell?, hgd]
   have hd1 : wx.cell? ⟨w.heap.size + 1 + 1 + 1 + 1, 1, none⟩ = some (.slice none 0 0) := by simp [World.cell?, hgd]
   have hd2 : wx.cell? ⟨w.heap.size + 1 + 1 + 1 + 1, 2, none⟩ = some (.bool false) := by simp [World.cell?, hgd]
   unfold SB.runs
   go_simp
   exact SB.detK.mk
  refine SB.sure_wild (js := [(0, 57)]) (ts := [8]) (gd := none) (bs := []) (cs := [gOO]) (SB.place_at HVS.out (k := 2) rfl) (by rw [HCS.out]; kernel_rfl) (by rw [HCS.out]; kernel_rfl) rfl ?_ ?_
  ·intro wx hx ρ hρ hs hf; have hρc := hρ.const; have hρf := hρ.func; obtain ⟨sn0, -⟩ := hs
   obtain ⟨fx8, -⟩ := hf; rw [qs8] at fx8
   rw [SB.place_at HVS.out (k := 0) rfl] at sn0; replace sn0 : ρ (.tmp 57) = _ := sn0
   clear HCS HVS qs4 qs8 qs10
   refine SB.run_plain ?_
   subst hOO
   have hg : wx.heap[w.heap.size + 1 + 1]? = some (.cells #[.int .i64 0, .int .i64 0, .slice none 0 0, .int .u64 0, .slice none 0 0, .slice none 0 0] 32 (0, 0)) := hx.heap HO.out (by simp)
   have f0 : wx.frozen? ⟨w.heap.size + 1 + 1, 0, none⟩ = false := by simp [World.frozen?, hg]
   have c0' : wx.cell? ⟨w.heap.size + 1 + 1, 0, none⟩ = some (.int .i64 0) := by simp [World.cell?, hg]
   have f1 : wx.frozen? ⟨w.heap.size + 1 + 1, 1, none⟩ = false := by simp [World.frozen?, hg]
   have c1' : wx.cell? ⟨w.heap.size + 1 + 1, 1, none⟩ = some (.int .i64 0) := by simp [World.cell?, hg]
   have f2 : wx.frozen? ⟨w.heap.size + 1 + 1, 2, none⟩ = false := by simp [World.frozen?, hg]
   have c2' : wx.cell? ⟨w.heap.size + 1 + 1, 2, none⟩ = some (.slice none 0 0) := by simp [World.cell?, hg]
   have f3 : wx.frozen? ⟨w.heap.size + 1 + 1, 3, none⟩ = false := by simp [World.frozen?, hg]
   have c3' : wx.cell? ⟨w.heap.size + 1 + 1, 3, none⟩ = some (.int .u64 0) := by simp [World.cell?, hg]
   have f4 : wx.frozen? ⟨w.heap.size + 1 + 1, 4, none⟩ = false := by simp [World.frozen?, hg]
   have c4' : wx.cell? ⟨w.heap.size + 1 + 1, 4, none⟩ = some (.slice none 0 0) := by simp [World.cell?, hg]
   have f5 : wx.frozen? ⟨w.heap.size + 1 + 1, 5, none⟩ = false := by simp [World.frozen?, hg]
   have c5' : wx.cell? ⟨w.heap.size + 1 + 1, 5, none⟩ = some (.slice none 0 0) := by simp [World.cell?, hg]
   unfold SB.runs
   go_simp
   exact ⟨.ofB (((((((ExtB.refl _ _).set _ _).set _ _).set _ _).set _ _).set _ _).set _ _) (by simp), setAll_all (vs := [.int .i64 T, .int .i64 C, .slice (some ⟨gN, 0, none⟩) q2 cN, .int .u64 (RN : Int), .slice A0 n c0, .slice A1 n c1]) hg rfl⟩
  exact trivial
 case hend =>
  intro xs wx hx hg hq
  have gk0 : xs 0 = _ := SB.goods_get hg (i := 0) (j := 0) (d := 57) rfl
  have gk1 : xs 1 = _ := SB.goods_get hg (i := 1) (j := 1) (d := 58) rfl
  obtain ⟨-, gk2⟩ : ∃ v : Value, wx.heap[gOO]? = some (.cells #[.int .i64 T, .int .i64 C, .slice (some ⟨gN, 0, none⟩) q2 cN, .int .u64 (RN : Int), .slice A0 n c0, .slice A1 n c1] 32 (0, 0)) := hq 2 (by decide) (by kernel_rfl)
  clear hg hq
  simp only [putAll, gk0, gk1]
  clear gk0 gk1
  clear xs
  simp only [Act.put, List.setIfInBounds_toArray, List.set_cons_zero, List.set_cons_succ, List.drop_succ_cons, List.drop_zero]
  subst hOO
  have hgO := gk2
  have hxs : SB.ExtS [w.heap.size + 1 + 1] w4.drew wx := hx
  have hbut : But (w.heap.size + 1 + 1) w4 wx := But.exts hxs
  have hgP : wx.heap[w.heap.size + 1 + 1 + 1]? = some (.cells #[.int .u64 0, .slice none 0 0, .bool false] 51 (0, 0)) := hbut _ _ (by omega) HP.out
  have hWx : Ext w wx := extS_base HW.out hxs (by omega)
  replace hdk := hdk.but hbut HO.out rfl
  replace hby := BytesV.but hby hbut HO.out rfl
  replace hwv := WordsV.but hwv hwl hbut HO.out rfl
  have hF : Ext w (((wx.setCell ⟨w.heap.size + 1 + 1 + 1, 0, none⟩ (.int .u64 0)).setCell ⟨w.heap.size + 1 + 1 + 1, 1, none⟩ (.slice none 0 0)).setCell ⟨w.heap.size + 1 + 1 + 1, 2, none⟩ (.bool false)) := setAll_ext (g := w.heap.size + 1 + 1 + 1) (vs := [.int .u64 0, .slice none 0 0, .bool false]) (i := 0) hWx (by omega)
  have hfP : (((wx.setCell ⟨w.heap.size + 1 + 1 + 1, 0, none⟩ (.int .u64 0)).setCell ⟨w.heap.size + 1 + 1 + 1, 1, none⟩ (.slice none 0 0)).setCell ⟨w.heap.size + 1 + 1 + 1, 2, none⟩ (.bool false)).heap[w.heap.size + 1 + 1 + 1]? = some (.cells #[.int .u64 0, .slice none 0 0, .bool false] 51 (0, 0)) := setAll_all (vs := [.int .u64 0, .slice none 0 0, .bool false]) hgP rfl
  have hfO : (((wx.setCell ⟨w.heap.size + 1 + 1 + 1, 0, none⟩ (.int .u64 0)).setCell ⟨w.heap.size + 1 + 1 + 1, 1, none⟩ (.slice none 0 0)).setCell ⟨w.heap.size + 1 + 1 + 1, 2, none⟩ (.bool false)).heap[w.heap.size + 1 + 1]? = some (.cells #[.int .i64 T, .int .i64 C, .slice (some ⟨gN, 0, none⟩) q2 cN, .int .u64 (RN : Int), .slice A0 n c0, .slice A1 n c1] 32 (0, 0)) := (setAll_other (g := w.heap.size + 1 + 1 + 1) (by omega) [.int .u64 0, .slice none 0 0, .bool false] 0 wx).trans hgO
  have hfd := hdk.but (But.all (w.heap.size + 1 + 1 + 1) [.int .u64 0, .slice none 0 0, .bool false] 0 wx) hgP rfl
  have hfb := BytesV.but hby (But.all (w.heap.size + 1 + 1 + 1) [.int .u64 0, .slice none 0 0, .bool false] 0 wx) hgP rfl
  have hfw := WordsV.but hwv hwl (But.all (w.heap.size + 1 + 1 + 1) [.int .u64 0, .slice none 0 0, .bool false] 0 wx) hgP rfl
  change DkK (((wx.setCell ⟨w.heap.size + 1 + 1 + 1, 0, none⟩ (.int .u64 0)).setCell ⟨w.heap.size + 1 + 1 + 1, 1, none⟩ (.slice none 0 0)).setCell ⟨w.heap.size + 1 + 1 + 1, 2, none⟩ (.bool false)) _ _ _ _ _ at hfd
  change BytesV (((wx.setCell ⟨w.heap.size + 1 + 1 + 1, 0, none⟩ (.int .u64 0)).setCell ⟨w.heap.size + 1 + 1 + 1, 1, none⟩ (.slice none 0 0)).setCell ⟨w.heap.size + 1 + 1 + 1, 2, none⟩ (.bool false)) _ _ _ _ at hfb
  change WordsV (((wx.setCell ⟨w.heap.size + 1 + 1 + 1, 0, none⟩ (.int .u64 0)).setCell ⟨w.heap.size + 1 + 1 + 1, 1, none⟩ (.slice none 0 0)).setCell ⟨w.heap.size + 1 + 1 + 1, 2, none⟩ (.bool false)) _ _ _ _ at hfw
  have p0 : wx.cell? ⟨w.heap.size + 1 + 1 + 1, 0, none⟩ = some (.int .u64 0) := by simp [World.cell?, hgP]
  have pf0 : wx.frozen? ⟨w.heap.size + 1 + 1 + 1, 0, none⟩ = false := by simp [World.frozen?, hgP]
  have p1 : wx.cell? ⟨w.heap.size + 1 + 1 + 1, 1, none⟩ = some (.slice none 0 0) := by simp [World.cell?, hgP]
  have pf1 : wx.frozen? ⟨w.heap.size + 1 + 1 + 1, 1, none⟩ = false := by simp [World.frozen?, hgP]
  have p2 : wx.cell? ⟨w.heap.size + 1 + 1 + 1, 2, none⟩ = some (.bool false) := by simp [World.cell?, hgP]
  have pf2 : wx.frozen? ⟨w.heap.size + 1 + 1 + 1, 2, none⟩ = false := by simp [World.frozen?, hgP]
  clear hx hxs hbut hdk hby hwv
  go_wp2
  generalize (((wx.setCell ⟨w.heap.size + 1 + 1 + 1, 0, none⟩ (.int .u64 0)).setCell ⟨w.heap.size + 1 + 1 + 1, 1, none⟩ (.slice none 0 0)).setCell ⟨w.heap.size + 1 + 1 + 1, 2, none⟩ (.bool false)) = wf at *
  clear p0 p1 p2 pf0 pf1 pf2
  have o0 : wf.cell? ⟨w.heap.size + 1 + 1, 0, none⟩ = some (.int .i64 T) := by simp [World.cell?, hfO]
  have o1 : wf.cell? ⟨w.heap.size + 1 + 1, 1, none⟩ = some (.int .i64 C) := by simp [World.cell?, hfO]
  have o2 : wf.cell? ⟨w.heap.size + 1 + 1, 2, none⟩ = some (.slice (some ⟨gN, 0, none⟩) q2 cN) := by simp [World.cell?, hfO]
  have o3 : wf.cell? ⟨w.heap.size + 1 + 1, 3, none⟩ = some (.int .u64 (RN : Int)) := by simp [World.cell?, hfO]
  have o4 : wf.cell? ⟨w.heap.size + 1 + 1, 4, none⟩ = some (.slice A0 n c0) := by simp [World.cell?, hfO]
  have o5 : wf.cell? ⟨w.heap.size + 1 + 1, 5, none⟩ = some (.slice A1 n c1) := by simp [World.cell?, hfO]
  have p0 : wf.cell? ⟨w.heap.size + 1 + 1 + 1, 0, none⟩ = some (.int .u64 0) := by simp [World.cell?, hfP]
  have p1 : wf.cell? ⟨w.heap.size + 1 + 1 + 1, 1, none⟩ = some (.slice none 0 0) := by simp [World.cell?, hfP]
  have p2 : wf.cell? ⟨w.heap.size + 1 + 1 + 1, 2, none⟩ = some (.bool false) := by simp [World.cell?, hfP]
  refine bodyPost_ret (v := .tuple #[.agg #[.int .i64 T, .int .i64 C, .slice (some ⟨gN, 0, none⟩) q2 cN, .int .u64 (RN : Int), .slice A0 n c0, .slice A1 n c1], .agg #[.int .u64 0, .slice none 0 0, .bool false]]) (by simp [results, Try.results20, go_sem, o0, o1, o2, o3, o4, o5, p0, p1, p2]) rfl ⟨_, _, rfl, ⟨_, _, _, _, _, _, _, rfl, hfw, hfd⟩, ⟨_, _, _, rfl, hfb⟩, hF⟩
set_option maxRecDepth 100000 in
set_option maxHeartbeats 1000000 in
theorem do_word (T C : Int) (A : Option Addr) (q c : Nat) (ws : List Int) (RN n : Nat) (A0 A1 : Option Addr) (c0 c1 : Nat) (K0 K1 : List Key) (me k ce a b : Int) (D : Option Addr) (m cd : Nat) (B : Option Addr) (q2 cb : Nat) (dat : List UInt8) (wd : List Int) (w : World) (hA : WordsV w A q c ws) (hd : DkK w (.agg #[.int .u64 (RN : Int), .slice A0 n c0, .slice A1 n c1]) (RN : Int) n K0 K1)
  (hB : BytesV w D m cd dat) (hwd : WordsV w B q2 cb wd) (ha : 0 ≤ a ∧ a < 18446744073709551616) (hb : 0 ≤ b ∧ b < 18446744073709551616) {mF : Nat} (hF : Fit ⟨T, C, ws, RN, n, K0, K1⟩ mF) (fl : Bool) (hk : diskKind k = false) (h13 : ¬ k = 13) :
  Calls Try.prog 20 #[.agg #[.int .i64 T, .int .i64 C, .slice A q c, .int .u64 (RN : Int), .slice A0 n c0, .slice A1 n c1], .int .i64 me, .agg #[.int .i64 k, .int .i64 ce, .int .u64 a, .int .u64 b, .slice D m cd, .slice B q2 cb], .bool fl] w (DoPost (⟨T, C, wordsK ws ⟨k, ce, a, b, dat, wd⟩, RN, n, K0, K1⟩ : WldK) (wordsR ws ⟨k, ce, a, b, dat, wd⟩) w) := by
 have hlen := hA.len
 have hlen2 := hwd.len
 have hpos : 0 < n := hF.pos
 have hn : n ≤ 64 := hF.le
 have hR : RN < 18446744073709551616 := by have := hF.root.2; simp only at this; omega
 have hws2 : 2 ≤ ws.length := hF.ws.1
 have hws6 : ws.length ≤ 65536 := hF.ws.2
 have hm0 : ∀ x ∈ K0, x.1.length + mF ≤ 65536 := hF.k0
 have hm1 : ∀ x ∈ K1, x.1.length + mF ≤ 65536 := hF.k1
 clear hF
 go_enter Try.func20, Try.ntmps20
 go_upto_region 3 with (fail)
 obtain ⟨hW, hE, hG, hO, hP, hQ⟩ := boxes5 w (.cells #[.int .i64 T, .int .i64 C, .slice A q c, .int .u64 (RN : Int), .slice A0 n c0, .slice A1 n c1] 32) (.cells #[.int .i64 k, .int .i64 ce, .int .u64 a, .int .u64 b, .slice D m cd, .slice B q2 cb] 42) (.cells #[.int .i64 0, .int .i64 0, .slice none 0 0, .int .u64 0, .slice none 0 0, .slice none 0 0] 32) (.cells #[.int .u64 0, .slice none 0 0, .bool false] 51) (.cells #[.int .u64 0, .slice none 0 0, .bool false] 51)
 generalize ((((w.alloc (.cells #[.int .i64 T, .int .i64 C, .slice A q c, .int .u64 (RN : Int), .slice A0 n c0, .slice A1 n c1] 32)).alloc (.cells #[.int .i64 k, .int .i64 ce, .int .u64 a, .int .u64 b, .slice D m cd, .slice B q2 cb] 42)).alloc (.cells #[.int .i64 0, .int .i64 0, .slice none 0 0, .int .u64 0, .slice none 0 0, .slice none 0 0] 32)).alloc (.cells #[.int .u64 0, .slice none 0 0, .bool false] 51)).alloc (.cells #[.int .u64 0, .slice none 0 0, .bool false] 51) = W at *
 have hlt : w.heap.size + 1 + 1 + 1 + 1 < W.heap.size := (Array.getElem?_eq_some_iff.1 hQ).1
 have e0 : W.cell? ⟨w.heap.size, 0, none⟩ = some (.int .i64 T) := by simp [World.cell?, hE]
 have ef0 : W.frozen? ⟨w.heap.size, 0, none⟩ = false := by simp [World.frozen?, hE]
 have e1 : W.cell? ⟨w.heap.size, 1, none⟩ = some (.int .i64 C) := by simp [World.cell?, hE]
 have ef1 : W.frozen? ⟨w.heap.size, 1, none⟩ = false := by simp [World.frozen?, hE]
 have e2 : W.cell? ⟨w.heap.size, 2, none⟩ = some (.slice A q c) := by simp [World.cell?, hE]
 have ef2 : W.frozen? ⟨w.heap.size, 2, none⟩ = false := by simp [World.frozen?, hE]
 have e3 : W.cell? ⟨w.heap.size, 3, none⟩ = some (.int .u64 (RN : Int)) := by simp [World.cell?, hE]
 have ef3 : W.frozen? ⟨w.heap.size, 3, none⟩ = false := by simp [World.frozen?, hE]
 have e4 : W.cell? ⟨w.heap.size, 4, none⟩ = some (.slice A0 n c0) := by simp [World.cell?, hE]
 have ef4 : W.frozen? ⟨w.heap.size, 4, none⟩ = false := by simp [World.frozen?, hE]
 have e5 : W.cell? ⟨w.heap.size, 5, none⟩ = some (.slice A1 n c1) := by simp [World.cell?, hE]
 have ef5 : W.frozen? ⟨w.heap.size, 5, none⟩ = false := by simp [World.frozen?, hE]
 have g0 : W.cell? ⟨w.heap.size + 1, 0, none⟩ = some (.int .i64 k) := by simp [World.cell?, hG]
 have g1 : W.cell? ⟨w.heap.size + 1, 1, none⟩ = some (.int .i64 ce) := by simp [World.cell?, hG]
 have g2 : W.cell? ⟨w.heap.size + 1, 2, none⟩ = some (.int .u64 a) := by simp [World.cell?, hG]
 have g3 : W.cell? ⟨w.heap.size + 1, 3, none⟩ = some (.int .u64 b) := by simp [World.cell?, hG]
 have g4 : W.cell? ⟨w.heap.size + 1, 4, none⟩ = some (.slice D m cd) := by simp [World.cell?, hG]
 have g5 : W.cell? ⟨w.heap.size + 1, 5, none⟩ = some (.slice B q2 cb) := by simp [World.cell?, hG]
 have z0 : W.cell? ⟨w.heap.size + 1 + 1 + 1 + 1, 0, none⟩ = some (.int .u64 0) := by simp [World.cell?, hQ]
 have zf0 : W.frozen? ⟨w.heap.size + 1 + 1 + 1 + 1, 0, none⟩ = false := by simp [World.frozen?, hQ]
 have z1 : W.cell? ⟨w.heap.size + 1 + 1 + 1 + 1, 1, none⟩ = some (.slice none 0 0) := by simp [World.cell?, hQ]
 have zf1 : W.frozen? ⟨w.heap.size + 1 + 1 + 1 + 1, 1, none⟩ = false := by simp [World.frozen?, hQ]
 have z2 : W.cell? ⟨w.heap.size + 1 + 1 + 1 + 1, 2, none⟩ = some (.bool false) := by simp [World.cell?, hQ]
 have zf2 : W.frozen? ⟨w.heap.size + 1 + 1 + 1 + 1, 2, none⟩ = false := by simp [World.frozen?, hQ]
 go_wp2_with fail
 refine (adisk_any k _).mono ?_
 rintro e w1 ⟨rfl, rfl⟩
 rw [hk]
 go_wp2_with fail
 refine (adisk_any k _).mono ?_
 rintro e w1 ⟨rfl, rfl⟩
 rw [hk]
 go_wp2_with fail
 refine (words_any T C A q c ws k ce a b D m cd B q2 cb dat wd _ (hA.ext hW) (by omega) ha hb).mono ?_
 rintro e w3 ⟨A', c', rfl, hwv, hx⟩
 have hwl : 2 ≤ (wordsK ws ⟨k, ce, a, b, dat, wd⟩).length := by rw [wordsK_length]; exact hws2
 have hwb : (wordsR ws ⟨k, ce, a, b, dat, wd⟩).b = [] ∧ (wordsR ws ⟨k, ce, a, b, dat, wd⟩).fail = false := by unfold wordsR; split <;> exact ⟨rfl, rfl⟩
 generalize wordsK ws ⟨k, ce, a, b, dat, wd⟩ = ws' at *
 generalize wordsR ws ⟨k, ce, a, b, dat, wd⟩ = rr at *
 obtain ⟨rN, rb, rf⟩ := rr
 obtain ⟨rfl, rfl⟩ := hwb
 replace hE := heap_ext hE hx
 replace hG := heap_ext hG hx
 replace hO := heap_ext hO hx
 replace hP := heap_ext hP hx
 replace hQ := heap_ext hQ hx
 replace hW := hW.trans hx
 clear e0 e1 e2 e3 e4 e5 ef0 ef1 ef2 ef3 ef4 ef5 g0 g1 g2 g3 g4 g5 z0 z1 z2 zf0 zf1 zf2
 clear hx
 have e0 : w3.cell? ⟨w.heap.size, 0, none⟩ = some (.int .i64 T) := by simp [World.cell?, hE]
 have ef0 : w3.frozen? ⟨w.heap.size, 0, none⟩ = false := by simp [World.frozen?, hE]
 have e1 : w3.cell? ⟨w.heap.size, 1, none⟩ = some (.int .i64 C) := by simp [World.cell?, hE]
 have ef1 : w3.frozen? ⟨w.heap.size, 1, none⟩ = false := by simp [World.frozen?, hE]
 have e2 : w3.cell? ⟨w.heap.size, 2, none⟩ = some (.slice A q c) := by simp [World.cell?, hE]
 have ef2 : w3.frozen? ⟨w.heap.size, 2, none⟩ = false := by simp [World.frozen?, hE]
 have e3 : w3.cell? ⟨w.heap.size, 3, none⟩ = some (.int .u64 (RN : Int)) := by simp [World.cell?, hE]
 have ef3 : w3.frozen? ⟨w.heap.size, 3, none⟩ = false := by simp [World.frozen?, hE]
 have e4 : w3.cell? ⟨w.heap.size, 4, none⟩ = some (.slice A0 n c0) := by simp [World.cell?, hE]
 have ef4 : w3.frozen? ⟨w.heap.size, 4, none⟩ = false := by simp [World.frozen?, hE]
 have e5 : w3.cell? ⟨w.heap.size, 5, none⟩ = some (.slice A1 n c1) := by simp [World.cell?, hE]
 have ef5 : w3.frozen? ⟨w.heap.size, 5, none⟩ = false := by simp [World.frozen?, hE]
 have z0 : w3.cell? ⟨w.heap.size + 1 + 1 + 1 + 1, 0, none⟩ = some (.int .u64 0) := by simp [World.cell?, hQ]
 have zf0 : w3.frozen? ⟨w.heap.size + 1 + 1 + 1 + 1, 0, none⟩ = false := by simp [World.frozen?, hQ]
 have z1 : w3.cell? ⟨w.heap.size + 1 + 1 + 1 + 1, 1, none⟩ = some (.slice none 0 0) := by simp [World.cell?, hQ]
 have zf1 : w3.frozen? ⟨w.heap.size + 1 + 1 + 1 + 1, 1, none⟩ = false := by simp [World.frozen?, hQ]
 have z2 : w3.cell? ⟨w.heap.size + 1 + 1 + 1 + 1, 2, none⟩ = some (.bool false) := by simp [World.cell?, hQ]
 have zf2 : w3.frozen? ⟨w.heap.size + 1 + 1 + 1 + 1, 2, none⟩ = false := by simp [World.frozen?, hQ]
 go_upto_region 10 with (fail)
 have hE3 : ((((((w3.setCell ⟨w.heap.size, 0, none⟩ (.int .i64 T)).setCell ⟨w.heap.size, 1, none⟩ (.int .i64 C)).setCell ⟨w.heap.size, 2, none⟩ (.slice A' q c')).setCell ⟨w.heap.size + 1 + 1 + 1 + 1, 0, none⟩ (.int .u64 rN)).setCell ⟨w.heap.size + 1 + 1 + 1 + 1, 1, none⟩ (.slice none 0 0)).setCell ⟨w.heap.size + 1 + 1 + 1 + 1, 2, none⟩ (.bool false)).heap[w.heap.size]? = some (.cells #[.int .i64 T, .int .i64 C, .slice A' q c', .int .u64 (RN : Int), .slice A0 n c0, .slice A1 n c1] 32 (0, 0)) := (setAll_other (g := w.heap.size + 1 + 1 + 1 + 1) (by omega) [.int .u64 rN, .slice none 0 0, .bool false] 0 _).trans (heap_setCell_at (heap_setCell_at (heap_setCell_at hE)))
 have hO3 : ((((((w3.setCell ⟨w.heap.size, 0, none⟩ (.int .i64 T)).setCell ⟨w.heap.size, 1, none⟩ (.int .i64 C)).setCell ⟨w.heap.size, 2, none⟩ (.slice A' q c')).setCell ⟨w.heap.size + 1 + 1 + 1 + 1, 0, none⟩ (.int .u64 rN)).setCell ⟨w.heap.size + 1 + 1 + 1 + 1, 1, none⟩ (.slice none 0 0)).setCell ⟨w.heap.size + 1 + 1 + 1 + 1, 2, none⟩ (.bool false)).heap[w.heap.size + 1 + 1]? = some (.cells #[.int .i64 0, .int .i64 0, .slice none 0 0, .int .u64 0, .slice none 0 0, .slice none 0 0] 32 (0, 0)) := (setAll_other (g := w.heap.size + 1 + 1 + 1 + 1) (by omega) [.int .u64 rN, .slice none 0 0, .bool false] 0 _).trans ((setAll_other (g := w.heap.size) (by omega) [.int .i64 T, .int .i64 C, .slice A' q c'] 0 w3).trans hO)
 have hP3 : ((((((w3.setCell ⟨w.heap.size, 0, none⟩ (.int .i64 T)).setCell ⟨w.heap.size, 1, none⟩ (.int .i64 C)).setCell ⟨w.heap.size, 2, none⟩ (.slice A' q c')).setCell ⟨w.heap.size + 1 + 1 + 1 + 1, 0, none⟩ (.int .u64 rN)).setCell ⟨w.heap.size + 1 + 1 + 1 + 1, 1, none⟩ (.slice none 0 0)).setCell ⟨w.heap.size + 1 + 1 + 1 + 1, 2, none⟩ (.bool false)).heap[w.heap.size + 1 + 1 + 1]? = some (.cells #[.int .u64 0, .slice none 0 0, .bool false] 51 (0, 0)) := (setAll_other (g := w.heap.size + 1 + 1 + 1 + 1) (by omega) [.int .u64 rN, .slice none 0 0, .bool false] 0 _).trans ((setAll_other (g := w.heap.size) (by omega) [.int .i64 T, .int .i64 C, .slice A' q c'] 0 w3).trans hP)
 have hQ3 : ((((((w3.setCell ⟨w.heap.size, 0, none⟩ (.int .i64 T)).setCell ⟨w.heap.size, 1, none⟩ (.int .i64 C)).setCell ⟨w.heap.size, 2, none⟩ (.slice A' q c')).setCell ⟨w.heap.size + 1 + 1 + 1 + 1, 0, none⟩ (.int .u64 rN)).setCell ⟨w.heap.size + 1 + 1 + 1 + 1, 1, none⟩ (.slice none 0 0)).setCell ⟨w.heap.size + 1 + 1 + 1 + 1, 2, none⟩ (.bool false)).heap[w.heap.size + 1 + 1 + 1 + 1]? = some (.cells #[.int .u64 rN, .slice none 0 0, .bool false] 51 (0, 0)) := setAll_all (vs := [.int .u64 rN, .slice none 0 0, .bool false]) ((setAll_other (g := w.heap.size) (by omega) [.int .i64 T, .int .i64 C, .slice A' q c'] 0 w3).trans hQ) rfl
 have hW3 : Ext w ((((((w3.setCell ⟨w.heap.size, 0, none⟩ (.int .i64 T)).setCell ⟨w.heap.size, 1, none⟩ (.int .i64 C)).setCell ⟨w.heap.size, 2, none⟩ (.slice A' q c')).setCell ⟨w.heap.size + 1 + 1 + 1 + 1, 0, none⟩ (.int .u64 rN)).setCell ⟨w.heap.size + 1 + 1 + 1 + 1, 1, none⟩ (.slice none 0 0)).setCell ⟨w.heap.size + 1 + 1 + 1 + 1, 2, none⟩ (.bool false)) := setAll_ext (g := w.heap.size + 1 + 1 + 1 + 1) (vs := [.int .u64 rN, .slice none 0 0, .bool false]) (i := 0) (setAll_ext (g := w.heap.size) (vs := [.int .i64 T, .int .i64 C, .slice A' q c']) (i := 0) hW (Nat.le_refl _)) (by omega)
 have hQm : (setAll (w.heap.size) 0 [.int .i64 T, .int .i64 C, .slice A' q c'] w3).heap[w.heap.size + 1 + 1 + 1 + 1]? = some (.cells #[.int .u64 0, .slice none 0 0, .bool false] 51 (0, 0)) := (setAll_other (g := w.heap.size) (by omega) [.int .i64 T, .int .i64 C, .slice A' q c'] 0 w3).trans hQ
 replace hwv := WordsV.but (WordsV.but hwv hwl (But.all w.heap.size [.int .i64 T, .int .i64 C, .slice A' q c'] 0 w3) hE rfl) hwl (But.all (w.heap.size + 1 + 1 + 1 + 1) [.int .u64 rN, .slice none 0 0, .bool false] 0 _) hQm rfl
 change WordsV ((((((w3.setCell ⟨w.heap.size, 0, none⟩ (.int .i64 T)).setCell ⟨w.heap.size, 1, none⟩ (.int .i64 C)).setCell ⟨w.heap.size, 2, none⟩ (.slice A' q c')).setCell ⟨w.heap.size + 1 + 1 + 1 + 1, 0, none⟩ (.int .u64 rN)).setCell ⟨w.heap.size + 1 + 1 + 1 + 1, 1, none⟩ (.slice none 0 0)).setCell ⟨w.heap.size + 1 + 1 + 1 + 1, 2, none⟩ (.bool false)) _ _ _ _ at hwv
 clear hQm
 clear e0 e1 e2 e3 e4 e5 ef0 ef1 ef2 ef3 ef4 ef5 z0 z1 z2 zf0 zf1 zf2
 clear hE hG hO hP hQ hW
 generalize ((((((w3.setCell ⟨w.heap.size, 0, none⟩ (.int .i64 T)).setCell ⟨w.heap.size, 1, none⟩ (.int .i64 C)).setCell ⟨w.heap.size, 2, none⟩ (.slice A' q c')).setCell ⟨w.heap.size + 1 + 1 + 1 + 1, 0, none⟩ (.int .u64 rN)).setCell ⟨w.heap.size + 1 + 1 + 1 + 1, 1, none⟩ (.slice none 0 0)).setCell ⟨w.heap.size + 1 + 1 + 1 + 1, 2, none⟩ (.bool false)) = w4 at *
 have hdk := hd.ext hW3
 have hby := bytes_nil w4
 have HE := Lib.hid hE3
 have HO := Lib.hid hO3
 have HP := Lib.hid hP3
 have HQ := Lib.hid hQ3
 have HW := Lib.hid hW3
 clear hE3 hO3 hP3 hQ3 hW3 hlt
 obtain ⟨gOO, hOO⟩ : ∃ g, g = w.heap.size + 1 + 1 := ⟨_, rfl⟩
 refine' SB.wp_region_sure (gx := [(2, gOO)]) (Pn := fun _ _ => False) ⟨[(some 57, [], none), (some 58, [], none), (none, [0, 0], none), (none, [1, 2, 0, 1, 2], none)], [0, 0, 1, 7], [none, none, some []], [2]⟩ 3 59 [(0, 57), (1, 58)] [(0, 57), (1, 58)] [.det _, .det _, SB.Good.of (fun v w => w.heap[gOO]? = some (.cells #[.int .i64 T, .int .i64 C, .slice A' q c', .int .u64 (RN : Int), .slice A0 n c0, .slice A1 n c1] 32 (0, 0))) (fun v w w' h hx => heap_ext h hx)] (by kernel_rfl) ?hpan (by kernel_rfl) (by kernel_rfl) rfl (by kernel_rfl) (by kernel_rfl) rfl ?hone ?hend
 case hpan =>
  intro _ _ _ _ h; exact h.elim
 case hone =>
  intro CS frS VS hCS ha hV
  have qs4 := slot_val (t := 4) ha rfl
  simp only [List.getElem_toArray, List.getElem_cons_succ, List.getElem_cons_zero] at qs4
  have qs8 := slot_val (t := 8) ha rfl
  simp only [List.getElem_toArray, List.getElem_cons_succ, List.getElem_cons_zero] at qs8
  have qs10 := slot_val (t := 10) ha rfl
  simp only [List.getElem_toArray, List.getElem_cons_succ, List.getElem_cons_zero] at qs10
  have HCS := Lib.hid hCS
  have HVS := Lib.hid hV
  clear ha hCS hV
  refine SB.sure_det (js := []) (ts := [4]) (gd := none) (bs := []) (SB.place_at HVS.out (k := 0) rfl) (by rw [HCS.out]; kernel_rfl) (by rw [HCS.out]; kernel_rfl) ?_ ?_
  ·intro wx hx ρ hρ hs hf; have hρc := hρ.const; have hρf := hρ.func
   obtain ⟨fx4, -⟩ := hf; rw [qs4] at fx4
   clear hs
   clear HCS HVS qs4 qs8 qs10
   refine SB.run_plain ?_
   have hgd : wx.heap[w.heap.size]? = some (.cells #[.int .i64 T, .int .i64 C, .slice A' q c', .int .u64 (RN : Int), .slice A0 n c0, .slice A1 n c1] 32 (0, 0)) := hx.heap HE.out (by simp)
   have hd0 : wx.cell? ⟨w.heap.size, 0, none⟩ = some (.int .i64 T) := by simp [World.cell?, hgd]
   have hd1 : wx.cell? ⟨w.heap.size, 1, none⟩ = some (.int .i64 C) := by simp [World.cell?, hgd]
   have hd2 : wx.cell? ⟨w.heap.size, 2, none⟩ = some (.slice A' q c') := by simp [World.cell?, hgd]
   have hd3 : wx.cell? ⟨w.heap.size, 3, none⟩ = some (.int .u64 (RN : Int)) := by simp [World.cell?, hgd]
   have hd4 : wx.cell? ⟨w.heap.size, 4, none⟩ = some (.slice A0 n c0) := by simp [World.cell?, hgd]
   have hd5 : wx.cell? ⟨w.heap.size, 5, none⟩ = some (.slice A1 n c1) := by simp [World.cell?, hgd]
   unfold SB.runs
   go_simp
   exact SB.detK.mk
  refine SB.sure_det (js := []) (ts := [10]) (gd := none) (bs := [gOO]) (SB.place_at HVS.out (k := 1) rfl) (by rw [HCS.out]; kernel_rfl) (by rw [HCS.out]; kernel_rfl) ?_ ?_
  ·intro wx hx ρ hρ hs hf; have hρc := hρ.const; have hρf := hρ.func
   obtain ⟨fx10, -⟩ := hf; rw [qs10] at fx10
   clear hs
   clear HCS HVS qs4 qs8 qs10
   refine SB.run_plain ?_
   have hgd : wx.heap[w.heap.size + 1 + 1 + 1 + 1]? = some (.cells #[.int .u64 rN, .slice none 0 0, .bool false] 51 (0, 0)) := hx.heap HQ.out (by simp; omega)
   have hd0 : wx.cell? ⟨w.heap.size + 1 + 1 + 1 + 1, 0, none⟩ = some (.int .u64 rN) := by simp [World.cell?, hgd]
   have hd1 : wx.cell? ⟨w.heap.size + 1 + 1 + 1 + 1, 1, none⟩ = some (.slice none 0 0) := by simp [World.cell?, hgd]
   have hd2 : wx.cell? ⟨w.heap.size + 1 + 1 + 1 + 1, 2, none⟩ = some (.bool false) := by simp [World.cell?, hgd]
   unfold SB.runs
   go_simp
   exact SB.detK.mk
  refine SB.sure_wild (js := [(0, 57)]) (ts := [8]) (gd := none) (bs := []) (cs := [gOO]) (SB.place_at HVS.out (k := 2) rfl) (by rw [HCS.out]; kernel_rfl) (by rw [HCS.out]; kernel_rfl) rfl ?_ ?_
  ·intro wx hx ρ hρ hs hf; have hρc := hρ.const; have hρf := hρ.func; obtain ⟨sn0, -⟩ := hs
   obtain ⟨fx8, -⟩ := hf; rw [qs8] at fx8
   rw [SB.place_at HVS.out (k := 0) rfl] at sn0; replace sn0 : ρ (.tmp 57) = _ := sn0
   clear HCS HVS qs4 qs8 qs10
   refine SB.run_plain ?_
   subst hOO
   have hg : wx.heap[w.heap.size + 1 + 1]? = some (.cells #[.int .i64 0, .int .i64 0, .slice none 0 0, .int .u64 0, .slice none 0 0, .slice none 0 0] 32 (0, 0)) := hx.heap HO.out (by simp)
   have f0 : wx.frozen? ⟨w.heap.size + 1 + 1, 0, none⟩ = false := by simp [World.frozen?, hg]
   have c0' : wx.cell? ⟨w.heap.size + 1 + 1, 0, none⟩ = some (.int .i64 0) := by simp [World.cell?, hg]
   have f1 : wx.frozen? ⟨w.heap.size + 1 + 1, 1, none⟩ = false := by simp [World.frozen?, hg]
   have c1' : wx.cell? ⟨w.heap.size + 1 + 1, 1, none⟩ = some (.int .i64 0) := by simp [World.cell?, hg]
   have f2 : wx.frozen? ⟨w.heap.size + 1 + 1, 2, none⟩ = false := by simp [World.frozen?, hg]
   have c2' : wx.cell? ⟨w.heap.size + 1 + 1, 2, none⟩ = some (.slice none 0 0) := by simp [World.cell?, hg]
   have f3 : wx.frozen? ⟨w.heap.size + 1 + 1, 3, none⟩ = false := by simp [World.frozen?, hg]
   have c3' : wx.cell? ⟨w.heap.size + 1 + 1, 3, none⟩ = some (.int .u64 0) := by simp [World.cell?, hg]
   have f4 : wx.frozen? ⟨w.heap.size + 1 + 1, 4, none⟩ = false := by simp [World.frozen?, hg]
   have c4' : wx.cell? ⟨w.heap.size + 1 + 1, 4, none⟩ = some (.slice none 0 0) := by simp [World.cell?, hg]
   have f5 : wx.frozen? ⟨w.heap.size + 1 + 1, 5, none⟩ = false := by simp [World.frozen?, hg]
   have c5' : wx.cell? ⟨w.heap.size + 1 + 1, 5, none⟩ = some (.slice none 0 0) := by simp [World.cell?, hg]
   unfold SB.runs
   go_simp
   exact ⟨.ofB (((((((ExtB.refl _ _).set _ _).set _ _).set _ _).set _ _).set _ _).set _ _) (by simp), setAll_all (vs := [.int .i64 T, .int .i64 C, .slice A' q c', .int .u64 (RN : Int), .slice A0 n c0, .slice A1 n c1]) hg rfl⟩
  exact trivial
 case hend =>
  intro xs wx hx hg hq
  have gk0 : xs 0 = _ := SB.goods_get hg (i := 0) (j := 0) (d := 57) rfl
  have gk1 : xs 1 = _ := SB.goods_get hg (i := 1) (j := 1) (d := 58) rfl
  obtain ⟨-, gk2⟩ : ∃ v : Value, wx.heap[gOO]? = some (.cells #[.int .i64 T, .int .i64 C, .slice A' q c', .int .u64 (RN : Int), .slice A0 n c0, .slice A1 n c1] 32 (0, 0)) := hq 2 (by decide) (by kernel_rfl)
  clear hg hq
  simp only [putAll, gk0, gk1]
  clear gk0 gk1
  clear xs
  simp only [Act.put, List.setIfInBounds_toArray, List.set_cons_zero, List.set_cons_succ, List.drop_succ_cons, List.drop_zero]
  subst hOO
  have hgO := gk2
  have hxs : SB.ExtS [w.heap.size + 1 + 1] w4.drew wx := hx
  have hbut : But (w.heap.size + 1 + 1) w4 wx := But.exts hxs
  have hgP : wx.heap[w.heap.size + 1 + 1 + 1]? = some (.cells #[.int .u64 0, .slice none 0 0, .bool false] 51 (0, 0)) := hbut _ _ (by omega) HP.out
  have hWx : Ext w wx := extS_base HW.out hxs (by omega)
  replace hdk := hdk.but hbut HO.out rfl
  replace hby := BytesV.but hby hbut HO.out rfl
  replace hwv := WordsV.but hwv hwl hbut HO.out rfl
  have hF : Ext w (((wx.setCell ⟨w.heap.size + 1 + 1 + 1, 0, none⟩ (.int .u64 rN)).setCell ⟨w.heap.size + 1 + 1 + 1, 1, none⟩ (.slice none 0 0)).setCell ⟨w.heap.size + 1 + 1 + 1, 2, none⟩ (.bool false)) := setAll_ext (g := w.heap.size + 1 + 1 + 1) (vs := [.int .u64 rN, .slice none 0 0, .bool false]) (i := 0) hWx (by omega)
  have hfP : (((wx.setCell ⟨w.heap.size + 1 + 1 + 1, 0, none⟩ (.int .u64 rN)).setCell ⟨w.heap.size + 1 + 1 + 1, 1, none⟩ (.slice none 0 0)).setCell ⟨w.heap.size + 1 + 1 + 1, 2, none⟩ (.bool false)).heap[w.heap.size + 1 + 1 + 1]? = some (.cells #[.int .u64 rN, .slice none 0 0, .bool false] 51 (0, 0)) := setAll_all (vs := [.int .u64 rN, .slice none 0 0, .bool false]) hgP rfl
  have hfO : (((wx.setCell ⟨w.heap.size + 1 + 1 + 1, 0, none⟩ (.int .u64 rN)).setCell ⟨w.heap.size + 1 + 1 + 1, 1, none⟩ (.slice none 0 0)).setCell ⟨w.heap.size + 1 + 1 + 1, 2, none⟩ (.bool false)).heap[w.heap.size + 1 + 1]? = some (.cells #[.int .i64 T, .int .i64 C, .slice A' q c', .int .u64 (RN : Int), .slice A0 n c0, .slice A1 n c1] 32 (0, 0)) := (setAll_other (g := w.heap.size + 1 + 1 + 1) (by omega) [.int .u64 rN, .slice none 0 0, .bool false] 0 wx).trans hgO
  have hfd := hdk.but (But.all (w.heap.size + 1 + 1 + 1) [.int .u64 rN, .slice none 0 0, .bool false] 0 wx) hgP rfl
  have hfb := BytesV.but hby (But.all (w.heap.size + 1 + 1 + 1) [.int .u64 rN, .slice none 0 0, .bool false] 0 wx) hgP rfl
  have hfw := WordsV.but hwv hwl (But.all (w.heap.size + 1 + 1 + 1) [.int .u64 rN, .slice none 0 0, .bool false] 0 wx) hgP rfl
  change DkK (((wx.setCell ⟨w.heap.size + 1 + 1 + 1, 0, none⟩ (.int .u64 rN)).setCell ⟨w.heap.size + 1 + 1 + 1, 1, none⟩ (.slice none 0 0)).setCell ⟨w.heap.size + 1 + 1 + 1, 2, none⟩ (.bool false)) _ _ _ _ _ at hfd
  change BytesV (((wx.setCell ⟨w.heap.size + 1 + 1 + 1, 0, none⟩ (.int .u64 rN)).setCell ⟨w.heap.size + 1 + 1 + 1, 1, none⟩ (.slice none 0 0)).setCell ⟨w.heap.size + 1 + 1 + 1, 2, none⟩ (.bool false)) _ _ _ _ at hfb
  change WordsV (((wx.setCell ⟨w.heap.size + 1 + 1 + 1, 0, none⟩ (.int .u64 rN)).setCell ⟨w.heap.size + 1 + 1 + 1, 1, none⟩ (.slice none 0 0)).setCell ⟨w.heap.size + 1 + 1 + 1, 2, none⟩ (.bool false)) _ _ _ _ at hfw
  have p0 : wx.cell? ⟨w.heap.size + 1 + 1 + 1, 0, none⟩ = some (.int .u64 0) := by simp [World.cell?, hgP]
  have pf0 : wx.frozen? ⟨w.heap.size + 1 + 1 + 1, 0, none⟩ = false := by simp [World.frozen?, hgP]
  have p1 : wx.cell? ⟨w.heap.size + 1 + 1 + 1, 1, none⟩ = some (.slice none 0 0) := by simp [World.cell?, hgP]
  have pf1 : wx.frozen? ⟨w.heap.size + 1 + 1 + 1, 1, none⟩ = false := by simp [World.frozen?, hgP]
  have p2 : wx.cell? ⟨w.heap.size + 1 + 1 + 1, 2, none⟩ = some (.bool false) := by simp [World.cell?, hgP]
  have pf2 : wx.frozen? ⟨w.heap.size + 1 + 1 + 1, 2, none⟩ = false := by simp [World.frozen?, hgP]
  clear hx hxs hbut hdk hby hwv
  go_wp2
  generalize (((wx.setCell ⟨w.heap.size + 1 + 1 + 1, 0, none⟩ (.int .u64 rN)).setCell ⟨w.heap.size + 1 + 1 + 1, 1, none⟩ (.slice none 0 0)).setCell ⟨w.heap.size + 1 + 1 + 1, 2, none⟩ (.bool false)) = wf at *
  clear p0 p1 p2 pf0 pf1 pf2
  have o0 : wf.cell? ⟨w.heap.size + 1 + 1, 0, none⟩ = some (.int .i64 T) := by simp [World.cell?, hfO]
  have o1 : wf.cell? ⟨w.heap.size + 1 + 1, 1, none⟩ = some (.int .i64 C) := by simp [World.cell?, hfO]
  have o2 : wf.cell? ⟨w.heap.size + 1 + 1, 2, none⟩ = some (.slice A' q c') := by simp [World.cell?, hfO]
  have o3 : wf.cell? ⟨w.heap.size + 1 + 1, 3, none⟩ = some (.int .u64 (RN : Int)) := by simp [World.cell?, hfO]
  have o4 : wf.cell? ⟨w.heap.size + 1 + 1, 4, none⟩ = some (.slice A0 n c0) := by simp [World.cell?, hfO]
  have o5 : wf.cell? ⟨w.heap.size + 1 + 1, 5, none⟩ = some (.slice A1 n c1) := by simp [World.cell?, hfO]
  have p0 : wf.cell? ⟨w.heap.size + 1 + 1 + 1, 0, none⟩ = some (.int .u64 rN) := by simp [World.cell?, hfP]
  have p1 : wf.cell? ⟨w.heap.size + 1 + 1 + 1, 1, none⟩ = some (.slice none 0 0) := by simp [World.cell?, hfP]
  have p2 : wf.cell? ⟨w.heap.size + 1 + 1 + 1, 2, none⟩ = some (.bool false) := by simp [World.cell?, hfP]
  refine bodyPost_ret (v := .tuple #[.agg #[.int .i64 T, .int .i64 C, .slice A' q c', .int .u64 (RN : Int), .slice A0 n c0, .slice A1 n c1], .agg #[.int .u64 rN, .slice none 0 0, .bool false]]) (by simp [results, Try.results20, go_sem, o0, o1, o2, o3, o4, o5, p0, p1, p2]) rfl ⟨_, _, rfl, ⟨_, _, _, _, _, _, _, rfl, hfw, hfd⟩, ⟨_, _, _, rfl, hfb⟩, hF⟩
theorem Fit.le_ {X : WldK} {m m' : Nat} (h : Fit X m) (hm : m' ≤ m) : Fit X m' := ⟨h.pos, h.le, h.root, h.ws, fun k hk => by have := h.k0 k hk; omega, fun k hk => by have := h.k1 k hk; omega⟩
def useM (A : AccK) (fail : Bool) : Nat := if diskKind A.kind && !fail then A.data.length else 0
theorem do_all (v av : Value) (X : WldK) (me : Int) (A : AccK) (fail : Bool) (w : World) (hX : WldV w v X) (hA : AccV w av A) (hF : Fit X (useM A fail)) :
  Calls Try.prog 20 #[v, .int .i64 me, av, .bool fail] w (DoPost (doK X me A fail) (doR X A fail) w) := by
 obtain ⟨T, C, ws, R, n, K0, K1⟩ := X
 obtain ⟨k, ce, a, b, dat, wd⟩ := A
 obtain ⟨RN, rfl⟩ : ∃ RN : Nat, R = (RN : Int) := ⟨R.toNat, by have := hF.root.1; simp only at this; omega⟩
 obtain ⟨AA, q, c, A0, A1, c0, c1, rfl, hw, hd⟩ := hX
 obtain ⟨D, m, cd, B, q2, cb, rfl, hB, hwd, ha, hb⟩ := hA
 simp only at *
 by_cases hk : diskKind k = true
 ·cases fail with
  | true =>
   rw [show doK ⟨T, C, ws, RN, n, K0, K1⟩ me ⟨k, ce, a, b, dat, wd⟩ true = ⟨T, C, ws, RN, n, K0, K1⟩ by simp [doK, hk], show doR ⟨T, C, ws, RN, n, K0, K1⟩ ⟨k, ce, a, b, dat, wd⟩ true = ⟨0, [], true⟩ by simp [doR, hk]]
   exact do_fail T C AA q c ws RN n A0 A1 c0 c1 K0 K1 me k ce a b D m cd B q2 cb dat wd w hw hd hB hwd ha hb hF hk
  | false =>
   rw [show doK ⟨T, C, ws, RN, n, K0, K1⟩ me ⟨k, ce, a, b, dat, wd⟩ false = ⟨T, C, ws, strRoot (RN : Int) ⟨k, ce, a, b, dat, wd⟩, n, strK0 (RN : Int) n me ⟨k, ce, a, b, dat, wd⟩ K0, strK1 (RN : Int) n me ⟨k, ce, a, b, dat, wd⟩ K1⟩ by simp [doK, hk], show doR ⟨T, C, ws, RN, n, K0, K1⟩ ⟨k, ce, a, b, dat, wd⟩ false = strR (RN : Int) ⟨k, ce, a, b, dat, wd⟩ K0 K1 by simp [doR, hk]]
   exact do_disk T C AA q c ws RN n A0 A1 c0 c1 K0 K1 me k ce a b D m cd B q2 cb dat wd w hw hd hB hwd ha hb hF hk (by simp [useM, hk, hB.len])
 ·have hk' : diskKind k = false := by simpa using hk
  by_cases h13 : k = 13
  ·subst h13
   by_cases hne : wd.length = ws.length
   ·rw [show doK ⟨T, C, ws, RN, n, K0, K1⟩ me ⟨13, ce, a, b, dat, wd⟩ fail = ⟨T, C, wd, RN, n, K0, K1⟩ by simp [doK, hne, diskKind], show doR ⟨T, C, ws, RN, n, K0, K1⟩ ⟨13, ce, a, b, dat, wd⟩ fail = ResK.zero by simp [doR, diskKind]]
    exact do_inst_yes T C AA q c ws RN n A0 A1 c0 c1 K0 K1 me 0 ce a b D m cd B q2 cb dat wd w hw hd hB hwd ha hb hF fail hk' hne
   ·rw [show doK ⟨T, C, ws, RN, n, K0, K1⟩ me ⟨13, ce, a, b, dat, wd⟩ fail = ⟨T, C, ws, RN, n, K0, K1⟩ by simp [doK, hne, diskKind], show doR ⟨T, C, ws, RN, n, K0, K1⟩ ⟨13, ce, a, b, dat, wd⟩ fail = ResK.zero by simp [doR, diskKind]]
    exact do_inst_no T C AA q c ws RN n A0 A1 c0 c1 K0 K1 me 0 ce a b D m cd B q2 cb dat wd w hw hd hB hwd ha hb hF fail hk' hne
  ·rw [show doK ⟨T, C, ws, RN, n, K0, K1⟩ me ⟨k, ce, a, b, dat, wd⟩ fail = ⟨T, C, wordsK ws ⟨k, ce, a, b, dat, wd⟩, RN, n, K0, K1⟩ by simp [doK, hk', h13], show doR ⟨T, C, ws, RN, n, K0, K1⟩ ⟨k, ce, a, b, dat, wd⟩ fail = wordsR ws ⟨k, ce, a, b, dat, wd⟩ by simp [doR, hk', h13]]
   exact do_word T C AA q c ws RN n A0 A1 c0 c1 K0 K1 me k ce a b D m cd B q2 cb dat wd w hw hd hB hwd ha hb hF fail hk' h13
theorem do_any (v av : Value) (X : WldK) (me : Int) (A : AccK) (fail : Bool) (w : World) (hX : WldV w v X) (hA : AccV w av A) (hF : Fit X A.data.length) :
  Calls Try.prog 20 #[v, .int .i64 me, av, .bool fail] w (DoPost (doK X me A fail) (doR X A fail) w) :=
 do_all v av X me A fail w hX hA (hF.le_ (by unfold useM; split <;> omega))
end Go.Proofs.Ytennnhfaghdeoaa
