import Derived.Test.YtennnhfaghdeoaaAccStr
import Derived.Test.YtennnhfaghdeoaaAccWith
namespace Go.Proofs.Ytennnhfaghdeoaa
open Go.RowKit

/-! wealdref10.Do: what fails, and the accesses of disks. -/
set_option maxRecDepth 100000 in
set_option maxHeartbeats 2000000 in
theorem rdo_fail (T C : Int) (A : Option Addr) (q c : Nat) (ws : List Int) (RN n : Nat) (A0 A1 : Option Addr) (c0 c1 : Nat) (K0 K1 : List Key) (me k ce a b : Int) (D : Option Addr) (m cd : Nat) (B : Option Addr) (q2 cb : Nat) (dat : List UInt8) (wd : List Int) (w : World) (hA : WordsV w A q c ws) (hd : DkK w (.agg #[.int .u64 (RN : Int), .slice A0 n c0, .slice A1 n c1]) (RN : Int) n K0 K1)
  (hB : BytesV w D m cd dat) (hwd : WordsV w B q2 cb wd) (ha : 0 ≤ a ∧ a < 18446744073709551616) (hb : 0 ≤ b ∧ b < 18446744073709551616) {mF : Nat} (hF : Fit ⟨T, C, ws, RN, n, K0, K1⟩ mF) (h5 : 5 ≤ k) (h12 : k ≤ 12) :
  Calls Try.prog 19 #[.agg #[.int .i64 T, .int .i64 C, .slice A q c, .int .u64 (RN : Int), .slice A0 n c0, .slice A1 n c1], .int .i64 me, .agg #[.int .i64 k, .int .i64 ce, .int .u64 a, .int .u64 b, .slice D m cd, .slice B q2 cb], .bool true] w (DoPost (⟨T, C, ws, RN, n, K0, K1⟩ : WldK) ⟨0, [], true⟩ w) := by
 have hlen := hA.len
 have hlen2 := hwd.len
 have hpos : 0 < n := hF.pos
 have hn : n ≤ 64 := hF.le
 have hn6 : n ≤ 65536 := by omega
 have hR : RN < 18446744073709551616 := by have := hF.root.2; simp only at this; omega
 have hws2 : 2 ≤ ws.length := hF.ws.1
 have hws6 : ws.length ≤ 65536 := hF.ws.2
 have hm0 : ∀ x ∈ K0, x.1.length + mF ≤ 65536 := hF.k0
 have hm1 : ∀ x ∈ K1, x.1.length + mF ≤ 65536 := hF.k1
 have hs0 : ∀ x ∈ K0, x.1.length ≤ 65536 := fun x hx => by have := hm0 x hx; omega
 have hs1 : ∀ x ∈ K1, x.1.length ≤ 65536 := fun x hx => by have := hm1 x hx; omega
 clear hF
 obtain ⟨rr, hrr, hr2⟩ : ∃ rr, RN % 2 = rr ∧ rr < 2 := ⟨_, rfl, Nat.mod_lt _ (by omega)⟩
 have hri : (RN : Int) % 2 = (rr : Int) := by omega
 have hsub : IntKind.i64.wrap (1 - (rr : Int)) = 1 - (rr : Int) := by rw [IntKind.wrap_i64]; omega
 have hm : Int.tmod (RN : Int) 2 = (rr : Int) := by rw [Int.tmod_eq_emod_of_nonneg (by omega)]; omega
 have hw1 : IntKind.u64.wrap (rr : Int) = (rr : Int) := by rw [IntKind.wrap_u64]; omega
 have hw2 : IntKind.i64.wrap (rr : Int) = (rr : Int) := by rw [IntKind.wrap_i64]; omega
 try rw [hri]
 clear hrr hri
 go_enter Try.func19, Try.ntmps19
 go_upto_region 1 with (fail)
 obtain ⟨hW, hE, hG, hO, hP⟩ := boxes4 w (.cells #[.int .i64 T, .int .i64 C, .slice A q c, .int .u64 (RN : Int), .slice A0 n c0, .slice A1 n c1] 32) (.cells #[.int .i64 k, .int .i64 ce, .int .u64 a, .int .u64 b, .slice D m cd, .slice B q2 cb] 42) (.cells #[.int .i64 0, .int .i64 0, .slice none 0 0, .int .u64 0, .slice none 0 0, .slice none 0 0] 32) (.cells #[.int .u64 0, .slice none 0 0, .bool false] 51)
 generalize (((w.alloc (.cells #[.int .i64 T, .int .i64 C, .slice A q c, .int .u64 (RN : Int), .slice A0 n c0, .slice A1 n c1] 32)).alloc (.cells #[.int .i64 k, .int .i64 ce, .int .u64 a, .int .u64 b, .slice D m cd, .slice B q2 cb] 42)).alloc (.cells #[.int .i64 0, .int .i64 0, .slice none 0 0, .int .u64 0, .slice none 0 0, .slice none 0 0] 32)).alloc (.cells #[.int .u64 0, .slice none 0 0, .bool false] 51) = W at *
 have hlt : w.heap.size + 1 + 1 + 1 < W.heap.size := (Array.getElem?_eq_some_iff.1 hP).1
 have e0 : W.cell? ⟨w.heap.size, 0, none⟩ = some (.int .i64 T) := by simp [World.cell?, hE]
 have e1 : W.cell? ⟨w.heap.size, 1, none⟩ = some (.int .i64 C) := by simp [World.cell?, hE]
 have e2 : W.cell? ⟨w.heap.size, 2, none⟩ = some (.slice A q c) := by simp [World.cell?, hE]
 have e3 : W.cell? ⟨w.heap.size, 3, none⟩ = some (.int .u64 (RN : Int)) := by simp [World.cell?, hE]
 have e4 : W.cell? ⟨w.heap.size, 4, none⟩ = some (.slice A0 n c0) := by simp [World.cell?, hE]
 have e5 : W.cell? ⟨w.heap.size, 5, none⟩ = some (.slice A1 n c1) := by simp [World.cell?, hE]
 have g0 : W.cell? ⟨w.heap.size + 1, 0, none⟩ = some (.int .i64 k) := by simp [World.cell?, hG]
 have g1 : W.cell? ⟨w.heap.size + 1, 1, none⟩ = some (.int .i64 ce) := by simp [World.cell?, hG]
 have g2 : W.cell? ⟨w.heap.size + 1, 2, none⟩ = some (.int .u64 a) := by simp [World.cell?, hG]
 have g3 : W.cell? ⟨w.heap.size + 1, 3, none⟩ = some (.int .u64 b) := by simp [World.cell?, hG]
 have g4 : W.cell? ⟨w.heap.size + 1, 4, none⟩ = some (.slice D m cd) := by simp [World.cell?, hG]
 have g5 : W.cell? ⟨w.heap.size + 1, 5, none⟩ = some (.slice B q2 cb) := by simp [World.cell?, hG]
 go_upto_region 2 with (fail)
 clear hm hw1 hw2
 go_upto_region 3 with (fail)
 clear e0 e1 e2 e3 e4 e5 g0 g1 g2 g3 g4 g5
 have hdk := hd.ext hW
 have hwv := hA.ext hW
 have hby := bytes_nil W
 have hwl := hws2
 have e0 : W.cell? ⟨w.heap.size, 0, none⟩ = some (.int .i64 T) := by simp [World.cell?, hE]
 have e1 : W.cell? ⟨w.heap.size, 1, none⟩ = some (.int .i64 C) := by simp [World.cell?, hE]
 have e2 : W.cell? ⟨w.heap.size, 2, none⟩ = some (.slice A q c) := by simp [World.cell?, hE]
 have e3 : W.cell? ⟨w.heap.size, 3, none⟩ = some (.int .u64 (RN : Int)) := by simp [World.cell?, hE]
 have e4 : W.cell? ⟨w.heap.size, 4, none⟩ = some (.slice A0 n c0) := by simp [World.cell?, hE]
 have e5 : W.cell? ⟨w.heap.size, 5, none⟩ = some (.slice A1 n c1) := by simp [World.cell?, hE]
 have o0 : W.cell? ⟨w.heap.size + 1 + 1, 0, none⟩ = some (.int .i64 0) := by simp [World.cell?, hO]
 have of0 : W.frozen? ⟨w.heap.size + 1 + 1, 0, none⟩ = false := by simp [World.frozen?, hO]
 have o1 : W.cell? ⟨w.heap.size + 1 + 1, 1, none⟩ = some (.int .i64 0) := by simp [World.cell?, hO]
 have of1 : W.frozen? ⟨w.heap.size + 1 + 1, 1, none⟩ = false := by simp [World.frozen?, hO]
 have o2 : W.cell? ⟨w.heap.size + 1 + 1, 2, none⟩ = some (.slice none 0 0) := by simp [World.cell?, hO]
 have of2 : W.frozen? ⟨w.heap.size + 1 + 1, 2, none⟩ = false := by simp [World.frozen?, hO]
 have o3 : W.cell? ⟨w.heap.size + 1 + 1, 3, none⟩ = some (.int .u64 0) := by simp [World.cell?, hO]
 have of3 : W.frozen? ⟨w.heap.size + 1 + 1, 3, none⟩ = false := by simp [World.frozen?, hO]
 have o4 : W.cell? ⟨w.heap.size + 1 + 1, 4, none⟩ = some (.slice none 0 0) := by simp [World.cell?, hO]
 have of4 : W.frozen? ⟨w.heap.size + 1 + 1, 4, none⟩ = false := by simp [World.frozen?, hO]
 have o5 : W.cell? ⟨w.heap.size + 1 + 1, 5, none⟩ = some (.slice none 0 0) := by simp [World.cell?, hO]
 have of5 : W.frozen? ⟨w.heap.size + 1 + 1, 5, none⟩ = false := by simp [World.frozen?, hO]
 have p0 : W.cell? ⟨w.heap.size + 1 + 1 + 1, 0, none⟩ = some (.int .u64 0) := by simp [World.cell?, hP]
 have pf0 : W.frozen? ⟨w.heap.size + 1 + 1 + 1, 0, none⟩ = false := by simp [World.frozen?, hP]
 have p1 : W.cell? ⟨w.heap.size + 1 + 1 + 1, 1, none⟩ = some (.slice none 0 0) := by simp [World.cell?, hP]
 have pf1 : W.frozen? ⟨w.heap.size + 1 + 1 + 1, 1, none⟩ = false := by simp [World.frozen?, hP]
 have p2 : W.cell? ⟨w.heap.size + 1 + 1 + 1, 2, none⟩ = some (.bool false) := by simp [World.cell?, hP]
 have pf2 : W.frozen? ⟨w.heap.size + 1 + 1 + 1, 2, none⟩ = false := by simp [World.frozen?, hP]
 have hPm : (setAll (w.heap.size + 1 + 1) 0 [.int .i64 T, .int .i64 C, .slice A q c, .int .u64 (RN : Int), .slice A0 n c0, .slice A1 n c1] W).heap[w.heap.size + 1 + 1 + 1]? = some (.cells #[.int .u64 0, .slice none 0 0, .bool false] 51 (0, 0)) := (setAll_other (g := w.heap.size + 1 + 1) (by omega) [.int .i64 T, .int .i64 C, .slice A q c, .int .u64 (RN : Int), .slice A0 n c0, .slice A1 n c1] 0 W).trans hP
 obtain ⟨wf, hwf⟩ : ∃ wf, wf = setAll (w.heap.size + 1 + 1 + 1) 0 [.int .u64 0, .slice none 0 0, .bool true] (setAll (w.heap.size + 1 + 1) 0 [.int .i64 T, .int .i64 C, .slice A q c, .int .u64 (RN : Int), .slice A0 n c0, .slice A1 n c1] W) := ⟨_, rfl⟩
 have hF : Ext w wf := hwf ▸ setAll_ext (g := w.heap.size + 1 + 1 + 1) (vs := [.int .u64 0, .slice none 0 0, .bool true]) (i := 0) (setAll_ext (g := w.heap.size + 1 + 1) (vs := [.int .i64 T, .int .i64 C, .slice A q c, .int .u64 (RN : Int), .slice A0 n c0, .slice A1 n c1]) (i := 0) hW (by omega)) (by omega)
 have hfO : wf.heap[w.heap.size + 1 + 1]? = some (.cells #[.int .i64 T, .int .i64 C, .slice A q c, .int .u64 (RN : Int), .slice A0 n c0, .slice A1 n c1] 32 (0, 0)) := hwf ▸ (setAll_other (g := w.heap.size + 1 + 1 + 1) (by omega) [.int .u64 0, .slice none 0 0, .bool true] 0 (setAll (w.heap.size + 1 + 1) 0 [.int .i64 T, .int .i64 C, .slice A q c, .int .u64 (RN : Int), .slice A0 n c0, .slice A1 n c1] W)).trans (setAll_all (vs := [.int .i64 T, .int .i64 C, .slice A q c, .int .u64 (RN : Int), .slice A0 n c0, .slice A1 n c1]) hO rfl)
 have hfP : wf.heap[w.heap.size + 1 + 1 + 1]? = some (.cells #[.int .u64 0, .slice none 0 0, .bool true] 51 (0, 0)) := hwf ▸ setAll_all (vs := [.int .u64 0, .slice none 0 0, .bool true]) hPm rfl
 have hfd := (hdk.but (But.all (w.heap.size + 1 + 1) [.int .i64 T, .int .i64 C, .slice A q c, .int .u64 (RN : Int), .slice A0 n c0, .slice A1 n c1] 0 W) hO rfl).but (But.all (w.heap.size + 1 + 1 + 1) [.int .u64 0, .slice none 0 0, .bool true] 0 _) hPm rfl
 have hfb := BytesV.but (BytesV.but hby (But.all (w.heap.size + 1 + 1) [.int .i64 T, .int .i64 C, .slice A q c, .int .u64 (RN : Int), .slice A0 n c0, .slice A1 n c1] 0 W) hO rfl) (But.all (w.heap.size + 1 + 1 + 1) [.int .u64 0, .slice none 0 0, .bool true] 0 _) hPm rfl
 have hfw := WordsV.but (WordsV.but hwv hwl (But.all (w.heap.size + 1 + 1) [.int .i64 T, .int .i64 C, .slice A q c, .int .u64 (RN : Int), .slice A0 n c0, .slice A1 n c1] 0 W) hO rfl) hwl (But.all (w.heap.size + 1 + 1 + 1) [.int .u64 0, .slice none 0 0, .bool true] 0 _) hPm rfl
 rw [← hwf] at hfd hfb hfw
 simp only [setAll] at hwf
 have HWF := Lib.hid hwf
 clear hwf hE hO hP hPm hdk hby hwv hW
 go_wp2_with fail
 rw [← HWF.out]
 clear HWF e0 e1 e2 e3 e4 e5 o0 o1 o2 o3 o4 o5 of0 of1 of2 of3 of4 of5 p0 p1 p2 pf0 pf1 pf2
 have o0 : wf.cell? ⟨w.heap.size + 1 + 1, 0, none⟩ = some (.int .i64 T) := by simp [World.cell?, hfO]
 have o1 : wf.cell? ⟨w.heap.size + 1 + 1, 1, none⟩ = some (.int .i64 C) := by simp [World.cell?, hfO]
 have o2 : wf.cell? ⟨w.heap.size + 1 + 1, 2, none⟩ = some (.slice A q c) := by simp [World.cell?, hfO]
 have o3 : wf.cell? ⟨w.heap.size + 1 + 1, 3, none⟩ = some (.int .u64 (RN : Int)) := by simp [World.cell?, hfO]
 have o4 : wf.cell? ⟨w.heap.size + 1 + 1, 4, none⟩ = some (.slice A0 n c0) := by simp [World.cell?, hfO]
 have o5 : wf.cell? ⟨w.heap.size + 1 + 1, 5, none⟩ = some (.slice A1 n c1) := by simp [World.cell?, hfO]
 have p0 : wf.cell? ⟨w.heap.size + 1 + 1 + 1, 0, none⟩ = some (.int .u64 0) := by simp [World.cell?, hfP]
 have p1 : wf.cell? ⟨w.heap.size + 1 + 1 + 1, 1, none⟩ = some (.slice none 0 0) := by simp [World.cell?, hfP]
 have p2 : wf.cell? ⟨w.heap.size + 1 + 1 + 1, 2, none⟩ = some (.bool true) := by simp [World.cell?, hfP]
 refine bodyPost_ret (v := .tuple #[.agg #[.int .i64 T, .int .i64 C, .slice A q c, .int .u64 (RN : Int), .slice A0 n c0, .slice A1 n c1], .agg #[.int .u64 0, .slice none 0 0, .bool true]]) (by simp [results, Try.results19, go_sem, o0, o1, o2, o3, o4, o5, p0, p1, p2]) rfl ⟨_, _, rfl, ⟨_, _, _, _, _, _, _, rfl, hfw, hfd⟩, ⟨_, _, _, rfl, hfb⟩, hF⟩
set_option maxRecDepth 100000 in
set_option maxHeartbeats 2000000 in
theorem rdo_5 (T C : Int) (A : Option Addr) (q c : Nat) (ws : List Int) (RN n : Nat) (A0 A1 : Option Addr) (c0 c1 : Nat) (K0 K1 : List Key) (me ce a b : Int) (D : Option Addr) (m cd : Nat) (B : Option Addr) (q2 cb : Nat) (dat : List UInt8) (wd : List Int) (w : World) (hA : WordsV w A q c ws) (hd : DkK w (.agg #[.int .u64 (RN : Int), .slice A0 n c0, .slice A1 n c1]) (RN : Int) n K0 K1)
  (hB : BytesV w D m cd dat) (hwd : WordsV w B q2 cb wd) (ha : 0 ≤ a ∧ a < 18446744073709551616) (hb : 0 ≤ b ∧ b < 18446744073709551616) {mF : Nat} (hF : Fit ⟨T, C, ws, RN, n, K0, K1⟩ mF) (hmF : m = mF) :
  Calls Try.prog 19 #[.agg #[.int .i64 T, .int .i64 C, .slice A q c, .int .u64 (RN : Int), .slice A0 n c0, .slice A1 n c1], .int .i64 me, .agg #[.int .i64 5, .int .i64 ce, .int .u64 a, .int .u64 b, .slice D m cd, .slice B q2 cb], .bool false] w (DoPost (⟨T, C, ws, RN, n, act0 ((RN : Int) % 2) me (appK dat) K0, act1 ((RN : Int) % 2) me (appK dat) K1⟩ : WldK) ResK.zero w) := by
 have hlen := hA.len
 have hlen2 := hwd.len
 have hpos : 0 < n := hF.pos
 have hn : n ≤ 64 := hF.le
 have hn6 : n ≤ 65536 := by omega
 have hR : RN < 18446744073709551616 := by have := hF.root.2; simp only at this; omega
 have hws2 : 2 ≤ ws.length := hF.ws.1
 have hws6 : ws.length ≤ 65536 := hF.ws.2
 have hm0 : ∀ x ∈ K0, x.1.length + mF ≤ 65536 := hF.k0
 have hm1 : ∀ x ∈ K1, x.1.length + mF ≤ 65536 := hF.k1
 have hs0 : ∀ x ∈ K0, x.1.length ≤ 65536 := fun x hx => by have := hm0 x hx; omega
 have hs1 : ∀ x ∈ K1, x.1.length ≤ 65536 := fun x hx => by have := hm1 x hx; omega
 clear hF
 subst hmF
 obtain ⟨rr, hrr, hr2⟩ : ∃ rr, RN % 2 = rr ∧ rr < 2 := ⟨_, rfl, Nat.mod_lt _ (by omega)⟩
 have hri : (RN : Int) % 2 = (rr : Int) := by omega
 have hsub : IntKind.i64.wrap (1 - (rr : Int)) = 1 - (rr : Int) := by rw [IntKind.wrap_i64]; omega
 have hm : Int.tmod (RN : Int) 2 = (rr : Int) := by rw [Int.tmod_eq_emod_of_nonneg (by omega)]; omega
 have hw1 : IntKind.u64.wrap (rr : Int) = (rr : Int) := by rw [IntKind.wrap_u64]; omega
 have hw2 : IntKind.i64.wrap (rr : Int) = (rr : Int) := by rw [IntKind.wrap_i64]; omega
 try rw [hri]
 clear hrr hri
 go_enter Try.func19, Try.ntmps19
 go_upto_region 1 with (fail)
 obtain ⟨hW, hE, hG, hO, hP⟩ := boxes4 w (.cells #[.int .i64 T, .int .i64 C, .slice A q c, .int .u64 (RN : Int), .slice A0 n c0, .slice A1 n c1] 32) (.cells #[.int .i64 5, .int .i64 ce, .int .u64 a, .int .u64 b, .slice D m cd, .slice B q2 cb] 42) (.cells #[.int .i64 0, .int .i64 0, .slice none 0 0, .int .u64 0, .slice none 0 0, .slice none 0 0] 32) (.cells #[.int .u64 0, .slice none 0 0, .bool false] 51)
 generalize (((w.alloc (.cells #[.int .i64 T, .int .i64 C, .slice A q c, .int .u64 (RN : Int), .slice A0 n c0, .slice A1 n c1] 32)).alloc (.cells #[.int .i64 5, .int .i64 ce, .int .u64 a, .int .u64 b, .slice D m cd, .slice B q2 cb] 42)).alloc (.cells #[.int .i64 0, .int .i64 0, .slice none 0 0, .int .u64 0, .slice none 0 0, .slice none 0 0] 32)).alloc (.cells #[.int .u64 0, .slice none 0 0, .bool false] 51) = W at *
 have hlt : w.heap.size + 1 + 1 + 1 < W.heap.size := (Array.getElem?_eq_some_iff.1 hP).1
 have e0 : W.cell? ⟨w.heap.size, 0, none⟩ = some (.int .i64 T) := by simp [World.cell?, hE]
 have e1 : W.cell? ⟨w.heap.size, 1, none⟩ = some (.int .i64 C) := by simp [World.cell?, hE]
 have e2 : W.cell? ⟨w.heap.size, 2, none⟩ = some (.slice A q c) := by simp [World.cell?, hE]
 have e3 : W.cell? ⟨w.heap.size, 3, none⟩ = some (.int .u64 (RN : Int)) := by simp [World.cell?, hE]
 have e4 : W.cell? ⟨w.heap.size, 4, none⟩ = some (.slice A0 n c0) := by simp [World.cell?, hE]
 have e5 : W.cell? ⟨w.heap.size, 5, none⟩ = some (.slice A1 n c1) := by simp [World.cell?, hE]
 have g0 : W.cell? ⟨w.heap.size + 1, 0, none⟩ = some (.int .i64 5) := by simp [World.cell?, hG]
 have g1 : W.cell? ⟨w.heap.size + 1, 1, none⟩ = some (.int .i64 ce) := by simp [World.cell?, hG]
 have g2 : W.cell? ⟨w.heap.size + 1, 2, none⟩ = some (.int .u64 a) := by simp [World.cell?, hG]
 have g3 : W.cell? ⟨w.heap.size + 1, 3, none⟩ = some (.int .u64 b) := by simp [World.cell?, hG]
 have g4 : W.cell? ⟨w.heap.size + 1, 4, none⟩ = some (.slice D m cd) := by simp [World.cell?, hG]
 have g5 : W.cell? ⟨w.heap.size + 1, 5, none⟩ = some (.slice B q2 cb) := by simp [World.cell?, hG]
 go_upto_region 2 with (fail)
 clear hm hw1 hw2
 go_wp2_with fail
 refine (rappend_K (rr : Int) me (hd.ext hW) hn6 (hB.ext hW) hm0 hm1).mono ?_
 rintro e w3 ⟨v', rfl, hdk, hx⟩
 obtain ⟨X0, X1, y0, y1, rfl⟩ := hdk.form
 replace hE := heap_ext hE hx
 replace hG := heap_ext hG hx
 replace hO := heap_ext hO hx
 replace hP := heap_ext hP hx
 replace hW := hW.trans hx
 clear e0 e1 e2 e3 e4 e5 g0 g1 g2 g3 g4 g5
 clear hx
 have e0 : w3.cell? ⟨w.heap.size, 0, none⟩ = some (.int .i64 T) := by simp [World.cell?, hE]
 have ef0 : w3.frozen? ⟨w.heap.size, 0, none⟩ = false := by simp [World.frozen?, hE]
 have e1 : w3.cell? ⟨w.heap.size, 1, none⟩ = some (.int .i64 C) := by simp [World.cell?, hE]
 have ef1 : w3.frozen? ⟨w.heap.size, 1, none⟩ = false := by simp [World.frozen?, hE]
 have e2 : w3.cell? ⟨w.heap.size, 2, none⟩ = some (.slice A q c) := by simp [World.cell?, hE]
 have ef2 : w3.frozen? ⟨w.heap.size, 2, none⟩ = false := by simp [World.frozen?, hE]
 have e3 : w3.cell? ⟨w.heap.size, 3, none⟩ = some (.int .u64 (RN : Int)) := by simp [World.cell?, hE]
 have ef3 : w3.frozen? ⟨w.heap.size, 3, none⟩ = false := by simp [World.frozen?, hE]
 have e4 : w3.cell? ⟨w.heap.size, 4, none⟩ = some (.slice A0 n c0) := by simp [World.cell?, hE]
 have ef4 : w3.frozen? ⟨w.heap.size, 4, none⟩ = false := by simp [World.frozen?, hE]
 have e5 : w3.cell? ⟨w.heap.size, 5, none⟩ = some (.slice A1 n c1) := by simp [World.cell?, hE]
 have ef5 : w3.frozen? ⟨w.heap.size, 5, none⟩ = false := by simp [World.frozen?, hE]
 go_upto_region 7 with (fail)
 have hE3 : (((w3.setCell ⟨w.heap.size, 3, none⟩ (.int .u64 (RN : Int))).setCell ⟨w.heap.size, 4, none⟩ (.slice X0 n y0)).setCell ⟨w.heap.size, 5, none⟩ (.slice X1 n y1)).heap[w.heap.size]? = some (.cells #[.int .i64 T, .int .i64 C, .slice A q c, .int .u64 (RN : Int), .slice X0 n y0, .slice X1 n y1] 32 (0, 0)) := heap_setCell_at (heap_setCell_at (heap_setCell_at hE))
 have hO3 : (((w3.setCell ⟨w.heap.size, 3, none⟩ (.int .u64 (RN : Int))).setCell ⟨w.heap.size, 4, none⟩ (.slice X0 n y0)).setCell ⟨w.heap.size, 5, none⟩ (.slice X1 n y1)).heap[w.heap.size + 1 + 1]? = some (.cells #[.int .i64 0, .int .i64 0, .slice none 0 0, .int .u64 0, .slice none 0 0, .slice none 0 0] 32 (0, 0)) := (setAll_other (g := w.heap.size) (by omega) [.int .u64 (RN : Int), .slice X0 n y0, .slice X1 n y1] 3 w3).trans hO
 have hP3 : (((w3.setCell ⟨w.heap.size, 3, none⟩ (.int .u64 (RN : Int))).setCell ⟨w.heap.size, 4, none⟩ (.slice X0 n y0)).setCell ⟨w.heap.size, 5, none⟩ (.slice X1 n y1)).heap[w.heap.size + 1 + 1 + 1]? = some (.cells #[.int .u64 0, .slice none 0 0, .bool false] 51 (0, 0)) := (setAll_other (g := w.heap.size) (by omega) [.int .u64 (RN : Int), .slice X0 n y0, .slice X1 n y1] 3 w3).trans hP
 have hW3 : Ext w (((w3.setCell ⟨w.heap.size, 3, none⟩ (.int .u64 (RN : Int))).setCell ⟨w.heap.size, 4, none⟩ (.slice X0 n y0)).setCell ⟨w.heap.size, 5, none⟩ (.slice X1 n y1)) := setAll_ext (g := w.heap.size) (vs := [.int .u64 (RN : Int), .slice X0 n y0, .slice X1 n y1]) (i := 3) hW (Nat.le_refl _)
 replace hdk := hdk.but (But.all w.heap.size [.int .u64 (RN : Int), .slice X0 n y0, .slice X1 n y1] 3 w3) hE rfl
 change DkK (((w3.setCell ⟨w.heap.size, 3, none⟩ (.int .u64 (RN : Int))).setCell ⟨w.heap.size, 4, none⟩ (.slice X0 n y0)).setCell ⟨w.heap.size, 5, none⟩ (.slice X1 n y1)) _ _ _ _ _ at hdk
 clear e0 e1 e2 e3 e4 e5 ef0 ef1 ef2 ef3 ef4 ef5 hE hG hO hP hW
 generalize (((w3.setCell ⟨w.heap.size, 3, none⟩ (.int .u64 (RN : Int))).setCell ⟨w.heap.size, 4, none⟩ (.slice X0 n y0)).setCell ⟨w.heap.size, 5, none⟩ (.slice X1 n y1)) = w4 at *
 have hE := hE3
 have hO := hO3
 have hP := hP3
 have hW := hW3
 clear hE3 hO3 hP3 hW3
 have hwv := hA.ext hW
 have hby := bytes_nil w4
 have hwl := hws2
 have e0 : w4.cell? ⟨w.heap.size, 0, none⟩ = some (.int .i64 T) := by simp [World.cell?, hE]
 have e1 : w4.cell? ⟨w.heap.size, 1, none⟩ = some (.int .i64 C) := by simp [World.cell?, hE]
 have e2 : w4.cell? ⟨w.heap.size, 2, none⟩ = some (.slice A q c) := by simp [World.cell?, hE]
 have e3 : w4.cell? ⟨w.heap.size, 3, none⟩ = some (.int .u64 (RN : Int)) := by simp [World.cell?, hE]
 have e4 : w4.cell? ⟨w.heap.size, 4, none⟩ = some (.slice X0 n y0) := by simp [World.cell?, hE]
 have e5 : w4.cell? ⟨w.heap.size, 5, none⟩ = some (.slice X1 n y1) := by simp [World.cell?, hE]
 have o0 : w4.cell? ⟨w.heap.size + 1 + 1, 0, none⟩ = some (.int .i64 0) := by simp [World.cell?, hO]
 have of0 : w4.frozen? ⟨w.heap.size + 1 + 1, 0, none⟩ = false := by simp [World.frozen?, hO]
 have o1 : w4.cell? ⟨w.heap.size + 1 + 1, 1, none⟩ = some (.int .i64 0) := by simp [World.cell?, hO]
 have of1 : w4.frozen? ⟨w.heap.size + 1 + 1, 1, none⟩ = false := by simp [World.frozen?, hO]
 have o2 : w4.cell? ⟨w.heap.size + 1 + 1, 2, none⟩ = some (.slice none 0 0) := by simp [World.cell?, hO]
 have of2 : w4.frozen? ⟨w.heap.size + 1 + 1, 2, none⟩ = false := by simp [World.frozen?, hO]
 have o3 : w4.cell? ⟨w.heap.size + 1 + 1, 3, none⟩ = some (.int .u64 0) := by simp [World.cell?, hO]
 have of3 : w4.frozen? ⟨w.heap.size + 1 + 1, 3, none⟩ = false := by simp [World.frozen?, hO]
 have o4 : w4.cell? ⟨w.heap.size + 1 + 1, 4, none⟩ = some (.slice none 0 0) := by simp [World.cell?, hO]
 have of4 : w4.frozen? ⟨w.heap.size + 1 + 1, 4, none⟩ = false := by simp [World.frozen?, hO]
 have o5 : w4.cell? ⟨w.heap.size + 1 + 1, 5, none⟩ = some (.slice none 0 0) := by simp [World.cell?, hO]
 have of5 : w4.frozen? ⟨w.heap.size + 1 + 1, 5, none⟩ = false := by simp [World.frozen?, hO]
 have p0 : w4.cell? ⟨w.heap.size + 1 + 1 + 1, 0, none⟩ = some (.int .u64 0) := by simp [World.cell?, hP]
 have pf0 : w4.frozen? ⟨w.heap.size + 1 + 1 + 1, 0, none⟩ = false := by simp [World.frozen?, hP]
 have p1 : w4.cell? ⟨w.heap.size + 1 + 1 + 1, 1, none⟩ = some (.slice none 0 0) := by simp [World.cell?, hP]
 have pf1 : w4.frozen? ⟨w.heap.size + 1 + 1 + 1, 1, none⟩ = false := by simp [World.frozen?, hP]
 have p2 : w4.cell? ⟨w.heap.size + 1 + 1 + 1, 2, none⟩ = some (.bool false) := by simp [World.cell?, hP]
 have pf2 : w4.frozen? ⟨w.heap.size + 1 + 1 + 1, 2, none⟩ = false := by simp [World.frozen?, hP]
 have hPm : (setAll (w.heap.size + 1 + 1) 0 [.int .i64 T, .int .i64 C, .slice A q c, .int .u64 (RN : Int), .slice X0 n y0, .slice X1 n y1] w4).heap[w.heap.size + 1 + 1 + 1]? = some (.cells #[.int .u64 0, .slice none 0 0, .bool false] 51 (0, 0)) := (setAll_other (g := w.heap.size + 1 + 1) (by omega) [.int .i64 T, .int .i64 C, .slice A q c, .int .u64 (RN : Int), .slice X0 n y0, .slice X1 n y1] 0 w4).trans hP
 obtain ⟨wf, hwf⟩ : ∃ wf, wf = setAll (w.heap.size + 1 + 1 + 1) 0 [.int .u64 0, .slice none 0 0, .bool false] (setAll (w.heap.size + 1 + 1) 0 [.int .i64 T, .int .i64 C, .slice A q c, .int .u64 (RN : Int), .slice X0 n y0, .slice X1 n y1] w4) := ⟨_, rfl⟩
 have hF : Ext w wf := hwf ▸ setAll_ext (g := w.heap.size + 1 + 1 + 1) (vs := [.int .u64 0, .slice none 0 0, .bool false]) (i := 0) (setAll_ext (g := w.heap.size + 1 + 1) (vs := [.int .i64 T, .int .i64 C, .slice A q c, .int .u64 (RN : Int), .slice X0 n y0, .slice X1 n y1]) (i := 0) hW (by omega)) (by omega)
 have hfO : wf.heap[w.heap.size + 1 + 1]? = some (.cells #[.int .i64 T, .int .i64 C, .slice A q c, .int .u64 (RN : Int), .slice X0 n y0, .slice X1 n y1] 32 (0, 0)) := hwf ▸ (setAll_other (g := w.heap.size + 1 + 1 + 1) (by omega) [.int .u64 0, .slice none 0 0, .bool false] 0 (setAll (w.heap.size + 1 + 1) 0 [.int .i64 T, .int .i64 C, .slice A q c, .int .u64 (RN : Int), .slice X0 n y0, .slice X1 n y1] w4)).trans (setAll_all (vs := [.int .i64 T, .int .i64 C, .slice A q c, .int .u64 (RN : Int), .slice X0 n y0, .slice X1 n y1]) hO rfl)
 have hfP : wf.heap[w.heap.size + 1 + 1 + 1]? = some (.cells #[.int .u64 0, .slice none 0 0, .bool false] 51 (0, 0)) := hwf ▸ setAll_all (vs := [.int .u64 0, .slice none 0 0, .bool false]) hPm rfl
 have hfd := (hdk.but (But.all (w.heap.size + 1 + 1) [.int .i64 T, .int .i64 C, .slice A q c, .int .u64 (RN : Int), .slice X0 n y0, .slice X1 n y1] 0 w4) hO rfl).but (But.all (w.heap.size + 1 + 1 + 1) [.int .u64 0, .slice none 0 0, .bool false] 0 _) hPm rfl
 have hfb := BytesV.but (BytesV.but hby (But.all (w.heap.size + 1 + 1) [.int .i64 T, .int .i64 C, .slice A q c, .int .u64 (RN : Int), .slice X0 n y0, .slice X1 n y1] 0 w4) hO rfl) (But.all (w.heap.size + 1 + 1 + 1) [.int .u64 0, .slice none 0 0, .bool false] 0 _) hPm rfl
 have hfw := WordsV.but (WordsV.but hwv hwl (But.all (w.heap.size + 1 + 1) [.int .i64 T, .int .i64 C, .slice A q c, .int .u64 (RN : Int), .slice X0 n y0, .slice X1 n y1] 0 w4) hO rfl) hwl (But.all (w.heap.size + 1 + 1 + 1) [.int .u64 0, .slice none 0 0, .bool false] 0 _) hPm rfl
 rw [← hwf] at hfd hfb hfw
 simp only [setAll] at hwf
 have HWF := Lib.hid hwf
 clear hwf hE hO hP hPm hdk hby hwv hW
 go_wp2_with fail
 rw [← HWF.out]
 clear HWF e0 e1 e2 e3 e4 e5 o0 o1 o2 o3 o4 o5 of0 of1 of2 of3 of4 of5 p0 p1 p2 pf0 pf1 pf2
 have o0 : wf.cell? ⟨w.heap.size + 1 + 1, 0, none⟩ = some (.int .i64 T) := by simp [World.cell?, hfO]
 have o1 : wf.cell? ⟨w.heap.size + 1 + 1, 1, none⟩ = some (.int .i64 C) := by simp [World.cell?, hfO]
 have o2 : wf.cell? ⟨w.heap.size + 1 + 1, 2, none⟩ = some (.slice A q c) := by simp [World.cell?, hfO]
 have o3 : wf.cell? ⟨w.heap.size + 1 + 1, 3, none⟩ = some (.int .u64 (RN : Int)) := by simp [World.cell?, hfO]
 have o4 : wf.cell? ⟨w.heap.size + 1 + 1, 4, none⟩ = some (.slice X0 n y0) := by simp [World.cell?, hfO]
 have o5 : wf.cell? ⟨w.heap.size + 1 + 1, 5, none⟩ = some (.slice X1 n y1) := by simp [World.cell?, hfO]
 have p0 : wf.cell? ⟨w.heap.size + 1 + 1 + 1, 0, none⟩ = some (.int .u64 0) := by simp [World.cell?, hfP]
 have p1 : wf.cell? ⟨w.heap.size + 1 + 1 + 1, 1, none⟩ = some (.slice none 0 0) := by simp [World.cell?, hfP]
 have p2 : wf.cell? ⟨w.heap.size + 1 + 1 + 1, 2, none⟩ = some (.bool false) := by simp [World.cell?, hfP]
 refine bodyPost_ret (v := .tuple #[.agg #[.int .i64 T, .int .i64 C, .slice A q c, .int .u64 (RN : Int), .slice X0 n y0, .slice X1 n y1], .agg #[.int .u64 0, .slice none 0 0, .bool false]]) (by simp [results, Try.results19, go_sem, o0, o1, o2, o3, o4, o5, p0, p1, p2]) rfl ⟨_, _, rfl, ⟨_, _, _, _, _, _, _, rfl, hfw, hfd⟩, ⟨_, _, _, rfl, hfb⟩, hF⟩
set_option maxRecDepth 100000 in
set_option maxHeartbeats 2000000 in
theorem rdo_6 (T C : Int) (A : Option Addr) (q c : Nat) (ws : List Int) (RN n : Nat) (A0 A1 : Option Addr) (c0 c1 : Nat) (K0 K1 : List Key) (me ce a b : Int) (D : Option Addr) (m cd : Nat) (B : Option Addr) (q2 cb : Nat) (dat : List UInt8) (wd : List Int) (w : World) (hA : WordsV w A q c ws) (hd : DkK w (.agg #[.int .u64 (RN : Int), .slice A0 n c0, .slice A1 n c1]) (RN : Int) n K0 K1)
  (hB : BytesV w D m cd dat) (hwd : WordsV w B q2 cb wd) (ha : 0 ≤ a ∧ a < 18446744073709551616) (hb : 0 ≤ b ∧ b < 18446744073709551616) {mF : Nat} (hF : Fit ⟨T, C, ws, RN, n, K0, K1⟩ mF) (hmF : m = mF) :
  Calls Try.prog 19 #[.agg #[.int .i64 T, .int .i64 C, .slice A q c, .int .u64 (RN : Int), .slice A0 n c0, .slice A1 n c1], .int .i64 me, .agg #[.int .i64 6, .int .i64 ce, .int .u64 a, .int .u64 b, .slice D m cd, .slice B q2 cb], .bool false] w (DoPost (⟨T, C, ws, RN, n, act0 ((RN : Int) % 2) me synK K0, act1 ((RN : Int) % 2) me synK K1⟩ : WldK) ResK.zero w) := by
 have hlen := hA.len
 have hlen2 := hwd.len
 have hpos : 0 < n := hF.pos
 have hn : n ≤ 64 := hF.le
 have hn6 : n ≤ 65536 := by omega
 have hR : RN < 18446744073709551616 := by have := hF.root.2; simp only at this; omega
 have hws2 : 2 ≤ ws.length := hF.ws.1
 have hws6 : ws.length ≤ 65536 := hF.ws.2
 have hm0 : ∀ x ∈ K0, x.1.length + mF ≤ 65536 := hF.k0
 have hm1 : ∀ x ∈ K1, x.1.length + mF ≤ 65536 := hF.k1
 have hs0 : ∀ x ∈ K0, x.1.length ≤ 65536 := fun x hx => by have := hm0 x hx; omega
 have hs1 : ∀ x ∈ K1, x.1.length ≤ 65536 := fun x hx => by have := hm1 x hx; omega
 clear hF
 subst hmF
 obtain ⟨rr, hrr, hr2⟩ : ∃ rr, RN % 2 = rr ∧ rr < 2 := ⟨_, rfl, Nat.mod_lt _ (by omega)⟩
 have hri : (RN : Int) % 2 = (rr : Int) := by omega
 have hsub : IntKind.i64.wrap (1 - (rr : Int)) = 1 - (rr : Int) := by rw [IntKind.wrap_i64]; omega
 have hm : Int.tmod (RN : Int) 2 = (rr : Int) := by rw [Int.tmod_eq_emod_of_nonneg (by omega)]; omega
 have hw1 : IntKind.u64.wrap (rr : Int) = (rr : Int) := by rw [IntKind.wrap_u64]; omega
 have hw2 : IntKind.i64.wrap (rr : Int) = (rr : Int) := by rw [IntKind.wrap_i64]; omega
 try rw [hri]
 clear hrr hri
 go_enter Try.func19, Try.ntmps19
 go_upto_region 1 with (fail)
 obtain ⟨hW, hE, hG, hO, hP⟩ := boxes4 w (.cells #[.int .i64 T, .int .i64 C, .slice A q c, .int .u64 (RN : Int), .slice A0 n c0, .slice A1 n c1] 32) (.cells #[.int .i64 6, .int .i64 ce, .int .u64 a, .int .u64 b, .slice D m cd, .slice B q2 cb] 42) (.cells #[.int .i64 0, .int .i64 0, .slice none 0 0, .int .u64 0, .slice none 0 0, .slice none 0 0] 32) (.cells #[.int .u64 0, .slice none 0 0, .bool false] 51)
 generalize (((w.alloc (.cells #[.int .i64 T, .int .i64 C, .slice A q c, .int .u64 (RN : Int), .slice A0 n c0, .slice A1 n c1] 32)).alloc (.cells #[.int .i64 6, .int .i64 ce, .int .u64 a, .int .u64 b, .slice D m cd, .slice B q2 cb] 42)).alloc (.cells #[.int .i64 0, .int .i64 0, .slice none 0 0, .int .u64 0, .slice none 0 0, .slice none 0 0] 32)).alloc (.cells #[.int .u64 0, .slice none 0 0, .bool false] 51) = W at *
 have hlt : w.heap.size + 1 + 1 + 1 < W.heap.size := (Array.getElem?_eq_some_iff.1 hP).1
 have e0 : W.cell? ⟨w.heap.size, 0, none⟩ = some (.int .i64 T) := by simp [World.cell?, hE]
 have e1 : W.cell? ⟨w.heap.size, 1, none⟩ = some (.int .i64 C) := by simp [World.cell?, hE]
 have e2 : W.cell? ⟨w.heap.size, 2, none⟩ = some (.slice A q c) := by simp [World.cell?, hE]
 have e3 : W.cell? ⟨w.heap.size, 3, none⟩ = some (.int .u64 (RN : Int)) := by simp [World.cell?, hE]
 have e4 : W.cell? ⟨w.heap.size, 4, none⟩ = some (.slice A0 n c0) := by simp [World.cell?, hE]
 have e5 : W.cell? ⟨w.heap.size, 5, none⟩ = some (.slice A1 n c1) := by simp [World.cell?, hE]
 have g0 : W.cell? ⟨w.heap.size + 1, 0, none⟩ = some (.int .i64 6) := by simp [World.cell?, hG]
 have g1 : W.cell? ⟨w.heap.size + 1, 1, none⟩ = some (.int .i64 ce) := by simp [World.cell?, hG]
 have g2 : W.cell? ⟨w.heap.size + 1, 2, none⟩ = some (.int .u64 a) := by simp [World.cell?, hG]
 have g3 : W.cell? ⟨w.heap.size + 1, 3, none⟩ = some (.int .u64 b) := by simp [World.cell?, hG]
 have g4 : W.cell? ⟨w.heap.size + 1, 4, none⟩ = some (.slice D m cd) := by simp [World.cell?, hG]
 have g5 : W.cell? ⟨w.heap.size + 1, 5, none⟩ = some (.slice B q2 cb) := by simp [World.cell?, hG]
 go_upto_region 2 with (fail)
 clear hm hw1 hw2
 go_wp2_with fail
 refine (rsync_K (rr : Int) me (hd.ext hW) hn6 hs0 hs1).mono ?_
 rintro e w3 ⟨v', rfl, hdk, hx⟩
 obtain ⟨X0, X1, y0, y1, rfl⟩ := hdk.form
 replace hE := heap_ext hE hx
 replace hG := heap_ext hG hx
 replace hO := heap_ext hO hx
 replace hP := heap_ext hP hx
 replace hW := hW.trans hx
 clear e0 e1 e2 e3 e4 e5 g0 g1 g2 g3 g4 g5
 clear hx
 have e0 : w3.cell? ⟨w.heap.size, 0, none⟩ = some (.int .i64 T) := by simp [World.cell?, hE]
 have ef0 : w3.frozen? ⟨w.heap.size, 0, none⟩ = false := by simp [World.frozen?, hE]
 have e1 : w3.cell? ⟨w.heap.size, 1, none⟩ = some (.int .i64 C) := by simp [World.cell?, hE]
 have ef1 : w3.frozen? ⟨w.heap.size, 1, none⟩ = false := by simp [World.frozen?, hE]
 have e2 : w3.cell? ⟨w.heap.size, 2, none⟩ = some (.slice A q c) := by simp [World.cell?, hE]
 have ef2 : w3.frozen? ⟨w.heap.size, 2, none⟩ = false := by simp [World.frozen?, hE]
 have e3 : w3.cell? ⟨w.heap.size, 3, none⟩ = some (.int .u64 (RN : Int)) := by simp [World.cell?, hE]
 have ef3 : w3.frozen? ⟨w.heap.size, 3, none⟩ = false := by simp [World.frozen?, hE]
 have e4 : w3.cell? ⟨w.heap.size, 4, none⟩ = some (.slice A0 n c0) := by simp [World.cell?, hE]
 have ef4 : w3.frozen? ⟨w.heap.size, 4, none⟩ = false := by simp [World.frozen?, hE]
 have e5 : w3.cell? ⟨w.heap.size, 5, none⟩ = some (.slice A1 n c1) := by simp [World.cell?, hE]
 have ef5 : w3.frozen? ⟨w.heap.size, 5, none⟩ = false := by simp [World.frozen?, hE]
 go_upto_region 10 with (fail)
 have hE3 : (((w3.setCell ⟨w.heap.size, 3, none⟩ (.int .u64 (RN : Int))).setCell ⟨w.heap.size, 4, none⟩ (.slice X0 n y0)).setCell ⟨w.heap.size, 5, none⟩ (.slice X1 n y1)).heap[w.heap.size]? = some (.cells #[.int .i64 T, .int .i64 C, .slice A q c, .int .u64 (RN : Int), .slice X0 n y0, .slice X1 n y1] 32 (0, 0)) := heap_setCell_at (heap_setCell_at (heap_setCell_at hE))
 have hO3 : (((w3.setCell ⟨w.heap.size, 3, none⟩ (.int .u64 (RN : Int))).setCell ⟨w.heap.size, 4, none⟩ (.slice X0 n y0)).setCell ⟨w.heap.size, 5, none⟩ (.slice X1 n y1)).heap[w.heap.size + 1 + 1]? = some (.cells #[.int .i64 0, .int .i64 0, .slice none 0 0, .int .u64 0, .slice none 0 0, .slice none 0 0] 32 (0, 0)) := (setAll_other (g := w.heap.size) (by omega) [.int .u64 (RN : Int), .slice X0 n y0, .slice X1 n y1] 3 w3).trans hO
 have hP3 : (((w3.setCell ⟨w.heap.size, 3, none⟩ (.int .u64 (RN : Int))).setCell ⟨w.heap.size, 4, none⟩ (.slice X0 n y0)).setCell ⟨w.heap.size, 5, none⟩ (.slice X1 n y1)).heap[w.heap.size + 1 + 1 + 1]? = some (.cells #[.int .u64 0, .slice none 0 0, .bool false] 51 (0, 0)) := (setAll_other (g := w.heap.size) (by omega) [.int .u64 (RN : Int), .slice X0 n y0, .slice X1 n y1] 3 w3).trans hP
 have hW3 : Ext w (((w3.setCell ⟨w.heap.size, 3, none⟩ (.int .u64 (RN : Int))).setCell ⟨w.heap.size, 4, none⟩ (.slice X0 n y0)).setCell ⟨w.heap.size, 5, none⟩ (.slice X1 n y1)) := setAll_ext (g := w.heap.size) (vs := [.int .u64 (RN : Int), .slice X0 n y0, .slice X1 n y1]) (i := 3) hW (Nat.le_refl _)
 replace hdk := hdk.but (But.all w.heap.size [.int .u64 (RN : Int), .slice X0 n y0, .slice X1 n y1] 3 w3) hE rfl
 change DkK (((w3.setCell ⟨w.heap.size, 3, none⟩ (.int .u64 (RN : Int))).setCell ⟨w.heap.size, 4, none⟩ (.slice X0 n y0)).setCell ⟨w.heap.size, 5, none⟩ (.slice X1 n y1)) _ _ _ _ _ at hdk
 clear e0 e1 e2 e3 e4 e5 ef0 ef1 ef2 ef3 ef4 ef5 hE hG hO hP hW
 generalize (((w3.setCell ⟨w.heap.size, 3, none⟩ (.int .u64 (RN : Int))).setCell ⟨w.heap.size, 4, none⟩ (.slice X0 n y0)).setCell ⟨w.heap.size, 5, none⟩ (.slice X1 n y1)) = w4 at *
 have hE := hE3
 have hO := hO3
 have hP := hP3
 have hW := hW3
 clear hE3 hO3 hP3 hW3
 have hwv := hA.ext hW
 have hby := bytes_nil w4
 have hwl := hws2
 have e0 : w4.cell? ⟨w.heap.size, 0, none⟩ = some (.int .i64 T) := by simp [World.cell?, hE]
 have e1 : w4.cell? ⟨w.heap.size, 1, none⟩ = some (.int .i64 C) := by simp [World.cell?, hE]
 have e2 : w4.cell? ⟨w.heap.size, 2, none⟩ = some (.slice A q c) := by simp [World.cell?, hE]
 have e3 : w4.cell? ⟨w.heap.size, 3, none⟩ = some (.int .u64 (RN : Int)) := by simp [World.cell?, hE]
 have e4 : w4.cell? ⟨w.heap.size, 4, none⟩ = some (.slice X0 n y0) := by simp [World.cell?, hE]
 have e5 : w4.cell? ⟨w.heap.size, 5, none⟩ = some (.slice X1 n y1) := by simp [World.cell?, hE]
 have o0 : w4.cell? ⟨w.heap.size + 1 + 1, 0, none⟩ = some (.int .i64 0) := by simp [World.cell?, hO]
 have of0 : w4.frozen? ⟨w.heap.size + 1 + 1, 0, none⟩ = false := by simp [World.frozen?, hO]
 have o1 : w4.cell? ⟨w.heap.size + 1 + 1, 1, none⟩ = some (.int .i64 0) := by simp [World.cell?, hO]
 have of1 : w4.frozen? ⟨w.heap.size + 1 + 1, 1, none⟩ = false := by simp [World.frozen?, hO]
 have o2 : w4.cell? ⟨w.heap.size + 1 + 1, 2, none⟩ = some (.slice none 0 0) := by simp [World.cell?, hO]
 have of2 : w4.frozen? ⟨w.heap.size + 1 + 1, 2, none⟩ = false := by simp [World.frozen?, hO]
 have o3 : w4.cell? ⟨w.heap.size + 1 + 1, 3, none⟩ = some (.int .u64 0) := by simp [World.cell?, hO]
 have of3 : w4.frozen? ⟨w.heap.size + 1 + 1, 3, none⟩ = false := by simp [World.frozen?, hO]
 have o4 : w4.cell? ⟨w.heap.size + 1 + 1, 4, none⟩ = some (.slice none 0 0) := by simp [World.cell?, hO]
 have of4 : w4.frozen? ⟨w.heap.size + 1 + 1, 4, none⟩ = false := by simp [World.frozen?, hO]
 have o5 : w4.cell? ⟨w.heap.size + 1 + 1, 5, none⟩ = some (.slice none 0 0) := by simp [World.cell?, hO]
 have of5 : w4.frozen? ⟨w.heap.size + 1 + 1, 5, none⟩ = false := by simp [World.frozen?, hO]
 have p0 : w4.cell? ⟨w.heap.size + 1 + 1 + 1, 0, none⟩ = some (.int .u64 0) := by simp [World.cell?, hP]
 have pf0 : w4.frozen? ⟨w.heap.size + 1 + 1 + 1, 0, none⟩ = false := by simp [World.frozen?, hP]
 have p1 : w4.cell? ⟨w.heap.size + 1 + 1 + 1, 1, none⟩ = some (.slice none 0 0) := by simp [World.cell?, hP]
 have pf1 : w4.frozen? ⟨w.heap.size + 1 + 1 + 1, 1, none⟩ = false := by simp [World.frozen?, hP]
 have p2 : w4.cell? ⟨w.heap.size + 1 + 1 + 1, 2, none⟩ = some (.bool false) := by simp [World.cell?, hP]
 have pf2 : w4.frozen? ⟨w.heap.size + 1 + 1 + 1, 2, none⟩ = false := by simp [World.frozen?, hP]
 have hPm : (setAll (w.heap.size + 1 + 1) 0 [.int .i64 T, .int .i64 C, .slice A q c, .int .u64 (RN : Int), .slice X0 n y0, .slice X1 n y1] w4).heap[w.heap.size + 1 + 1 + 1]? = some (.cells #[.int .u64 0, .slice none 0 0, .bool false] 51 (0, 0)) := (setAll_other (g := w.heap.size + 1 + 1) (by omega) [.int .i64 T, .int .i64 C, .slice A q c, .int .u64 (RN : Int), .slice X0 n y0, .slice X1 n y1] 0 w4).trans hP
 obtain ⟨wf, hwf⟩ : ∃ wf, wf = setAll (w.heap.size + 1 + 1 + 1) 0 [.int .u64 0, .slice none 0 0, .bool false] (setAll (w.heap.size + 1 + 1) 0 [.int .i64 T, .int .i64 C, .slice A q c, .int .u64 (RN : Int), .slice X0 n y0, .slice X1 n y1] w4) := ⟨_, rfl⟩
 have hF : Ext w wf := hwf ▸ setAll_ext (g := w.heap.size + 1 + 1 + 1) (vs := [.int .u64 0, .slice none 0 0, .bool false]) (i := 0) (setAll_ext (g := w.heap.size + 1 + 1) (vs := [.int .i64 T, .int .i64 C, .slice A q c, .int .u64 (RN : Int), .slice X0 n y0, .slice X1 n y1]) (i := 0) hW (by omega)) (by omega)
 have hfO : wf.heap[w.heap.size + 1 + 1]? = some (.cells #[.int .i64 T, .int .i64 C, .slice A q c, .int .u64 (RN : Int), .slice X0 n y0, .slice X1 n y1] 32 (0, 0)) := hwf ▸ (setAll_other (g := w.heap.size + 1 + 1 + 1) (by omega) [.int .u64 0, .slice none 0 0, .bool false] 0 (setAll (w.heap.size + 1 + 1) 0 [.int .i64 T, .int .i64 C, .slice A q c, .int .u64 (RN : Int), .slice X0 n y0, .slice X1 n y1] w4)).trans (setAll_all (vs := [.int .i64 T, .int .i64 C, .slice A q c, .int .u64 (RN : Int), .slice X0 n y0, .slice X1 n y1]) hO rfl)
 have hfP : wf.heap[w.heap.size + 1 + 1 + 1]? = some (.cells #[.int .u64 0, .slice none 0 0, .bool false] 51 (0, 0)) := hwf ▸ setAll_all (vs := [.int .u64 0, .slice none 0 0, .bool false]) hPm rfl
 have hfd := (hdk.but (But.all (w.heap.size + 1 + 1) [.int .i64 T, .int .i64 C, .slice A q c, .int .u64 (RN : Int), .slice X0 n y0, .slice X1 n y1] 0 w4) hO rfl).but (But.all (w.heap.size + 1 + 1 + 1) [.int .u64 0, .slice none 0 0, .bool false] 0 _) hPm rfl
 have hfb := BytesV.but (BytesV.but hby (But.all (w.heap.size + 1 + 1) [.int .i64 T, .int .i64 C, .slice A q c, .int .u64 (RN : Int), .slice X0 n y0, .slice X1 n y1] 0 w4) hO rfl) (But.all (w.heap.size + 1 + 1 + 1) [.int .u64 0, .slice none 0 0, .bool false] 0 _) hPm rfl
 have hfw := WordsV.but (WordsV.but hwv hwl (But.all (w.heap.size + 1 + 1) [.int .i64 T, .int .i64 C, .slice A q c, .int .u64 (RN : Int), .slice X0 n y0, .slice X1 n y1] 0 w4) hO rfl) hwl (But.all (w.heap.size + 1 + 1 + 1) [.int .u64 0, .slice none 0 0, .bool false] 0 _) hPm rfl
 rw [← hwf] at hfd hfb hfw
 simp only [setAll] at hwf
 have HWF := Lib.hid hwf
 clear hwf hE hO hP hPm hdk hby hwv hW
 go_wp2_with fail
 rw [← HWF.out]
 clear HWF e0 e1 e2 e3 e4 e5 o0 o1 o2 o3 o4 o5 of0 of1 of2 of3 of4 of5 p0 p1 p2 pf0 pf1 pf2
 have o0 : wf.cell? ⟨w.heap.size + 1 + 1, 0, none⟩ = some (.int .i64 T) := by simp [World.cell?, hfO]
 have o1 : wf.cell? ⟨w.heap.size + 1 + 1, 1, none⟩ = some (.int .i64 C) := by simp [World.cell?, hfO]
 have o2 : wf.cell? ⟨w.heap.size + 1 + 1, 2, none⟩ = some (.slice A q c) := by simp [World.cell?, hfO]
 have o3 : wf.cell? ⟨w.heap.size + 1 + 1, 3, none⟩ = some (.int .u64 (RN : Int)) := by simp [World.cell?, hfO]
 have o4 : wf.cell? ⟨w.heap.size + 1 + 1, 4, none⟩ = some (.slice X0 n y0) := by simp [World.cell?, hfO]
 have o5 : wf.cell? ⟨w.heap.size + 1 + 1, 5, none⟩ = some (.slice X1 n y1) := by simp [World.cell?, hfO]
 have p0 : wf.cell? ⟨w.heap.size + 1 + 1 + 1, 0, none⟩ = some (.int .u64 0) := by simp [World.cell?, hfP]
 have p1 : wf.cell? ⟨w.heap.size + 1 + 1 + 1, 1, none⟩ = some (.slice none 0 0) := by simp [World.cell?, hfP]
 have p2 : wf.cell? ⟨w.heap.size + 1 + 1 + 1, 2, none⟩ = some (.bool false) := by simp [World.cell?, hfP]
 refine bodyPost_ret (v := .tuple #[.agg #[.int .i64 T, .int .i64 C, .slice A q c, .int .u64 (RN : Int), .slice X0 n y0, .slice X1 n y1], .agg #[.int .u64 0, .slice none 0 0, .bool false]]) (by simp [results, Try.results19, go_sem, o0, o1, o2, o3, o4, o5, p0, p1, p2]) rfl ⟨_, _, rfl, ⟨_, _, _, _, _, _, _, rfl, hfw, hfd⟩, ⟨_, _, _, rfl, hfb⟩, hF⟩
set_option maxRecDepth 100000 in
set_option maxHeartbeats 2000000 in
theorem rdo_9 (T C : Int) (A : Option Addr) (q c : Nat) (ws : List Int) (RN n : Nat) (A0 A1 : Option Addr) (c0 c1 : Nat) (K0 K1 : List Key) (me ce a b : Int) (D : Option Addr) (m cd : Nat) (B : Option Addr) (q2 cb : Nat) (dat : List UInt8) (wd : List Int) (w : World) (hA : WordsV w A q c ws) (hd : DkK w (.agg #[.int .u64 (RN : Int), .slice A0 n c0, .slice A1 n c1]) (RN : Int) n K0 K1)
  (hB : BytesV w D m cd dat) (hwd : WordsV w B q2 cb wd) (ha : 0 ≤ a ∧ a < 18446744073709551616) (hb : 0 ≤ b ∧ b < 18446744073709551616) {mF : Nat} (hF : Fit ⟨T, C, ws, RN, n, K0, K1⟩ mF) (hmF : m = mF) :
  Calls Try.prog 19 #[.agg #[.int .i64 T, .int .i64 C, .slice A q c, .int .u64 (RN : Int), .slice A0 n c0, .slice A1 n c1], .int .i64 me, .agg #[.int .i64 9, .int .i64 ce, .int .u64 a, .int .u64 b, .slice D m cd, .slice B q2 cb], .bool false] w (DoPost (⟨T, C, ws, RN, n, clr0 (1 - ((RN : Int) % 2)) n K0, clr1 (1 - ((RN : Int) % 2)) n K1⟩ : WldK) ResK.zero w) := by
 have hlen := hA.len
 have hlen2 := hwd.len
 have hpos : 0 < n := hF.pos
 have hn : n ≤ 64 := hF.le
 have hn6 : n ≤ 65536 := by omega
 have hR : RN < 18446744073709551616 := by have := hF.root.2; simp only at this; omega
 have hws2 : 2 ≤ ws.length := hF.ws.1
 have hws6 : ws.length ≤ 65536 := hF.ws.2
 have hm0 : ∀ x ∈ K0, x.1.length + mF ≤ 65536 := hF.k0
 have hm1 : ∀ x ∈ K1, x.1.length + mF ≤ 65536 := hF.k1
 have hs0 : ∀ x ∈ K0, x.1.length ≤ 65536 := fun x hx => by have := hm0 x hx; omega
 have hs1 : ∀ x ∈ K1, x.1.length ≤ 65536 := fun x hx => by have := hm1 x hx; omega
 clear hF
 subst hmF
 obtain ⟨rr, hrr, hr2⟩ : ∃ rr, RN % 2 = rr ∧ rr < 2 := ⟨_, rfl, Nat.mod_lt _ (by omega)⟩
 have hri : (RN : Int) % 2 = (rr : Int) := by omega
 have hsub : IntKind.i64.wrap (1 - (rr : Int)) = 1 - (rr : Int) := by rw [IntKind.wrap_i64]; omega
 have hm : Int.tmod (RN : Int) 2 = (rr : Int) := by rw [Int.tmod_eq_emod_of_nonneg (by omega)]; omega
 have hw1 : IntKind.u64.wrap (rr : Int) = (rr : Int) := by rw [IntKind.wrap_u64]; omega
 have hw2 : IntKind.i64.wrap (rr : Int) = (rr : Int) := by rw [IntKind.wrap_i64]; omega
 try rw [hri]
 clear hrr hri
 go_enter Try.func19, Try.ntmps19
 go_upto_region 1 with (fail)
 obtain ⟨hW, hE, hG, hO, hP⟩ := boxes4 w (.cells #[.int .i64 T, .int .i64 C, .slice A q c, .int .u64 (RN : Int), .slice A0 n c0, .slice A1 n c1] 32) (.cells #[.int .i64 9, .int .i64 ce, .int .u64 a, .int .u64 b, .slice D m cd, .slice B q2 cb] 42) (.cells #[.int .i64 0, .int .i64 0, .slice none 0 0, .int .u64 0, .slice none 0 0, .slice none 0 0] 32) (.cells #[.int .u64 0, .slice none 0 0, .bool false] 51)
 generalize (((w.alloc (.cells #[.int .i64 T, .int .i64 C, .slice A q c, .int .u64 (RN : Int), .slice A0 n c0, .slice A1 n c1] 32)).alloc (.cells #[.int .i64 9, .int .i64 ce, .int .u64 a, .int .u64 b, .slice D m cd, .slice B q2 cb] 42)).alloc (.cells #[.int .i64 0, .int .i64 0, .slice none 0 0, .int .u64 0, .slice none 0 0, .slice none 0 0] 32)).alloc (.cells #[.int .u64 0, .slice none 0 0, .bool false] 51) = W at *
 have hlt : w.heap.size + 1 + 1 + 1 < W.heap.size := (Array.getElem?_eq_some_iff.1 hP).1
 have e0 : W.cell? ⟨w.heap.size, 0, none⟩ = some (.int .i64 T) := by simp [World.cell?, hE]
 have e1 : W.cell? ⟨w.heap.size, 1, none⟩ = some (.int .i64 C) := by simp [World.cell?, hE]
 have e2 : W.cell? ⟨w.heap.size, 2, none⟩ = some (.slice A q c) := by simp [World.cell?, hE]
 have e3 : W.cell? ⟨w.heap.size, 3, none⟩ = some (.int .u64 (RN : Int)) := by simp [World.cell?, hE]
 have e4 : W.cell? ⟨w.heap.size, 4, none⟩ = some (.slice A0 n c0) := by simp [World.cell?, hE]
 have e5 : W.cell? ⟨w.heap.size, 5, none⟩ = some (.slice A1 n c1) := by simp [World.cell?, hE]
 have g0 : W.cell? ⟨w.heap.size + 1, 0, none⟩ = some (.int .i64 9) := by simp [World.cell?, hG]
 have g1 : W.cell? ⟨w.heap.size + 1, 1, none⟩ = some (.int .i64 ce) := by simp [World.cell?, hG]
 have g2 : W.cell? ⟨w.heap.size + 1, 2, none⟩ = some (.int .u64 a) := by simp [World.cell?, hG]
 have g3 : W.cell? ⟨w.heap.size + 1, 3, none⟩ = some (.int .u64 b) := by simp [World.cell?, hG]
 have g4 : W.cell? ⟨w.heap.size + 1, 4, none⟩ = some (.slice D m cd) := by simp [World.cell?, hG]
 have g5 : W.cell? ⟨w.heap.size + 1, 5, none⟩ = some (.slice B q2 cb) := by simp [World.cell?, hG]
 go_upto_region 2 with (fail)
 clear hm hw1 hw2
 go_wp2_with fail
 try rw [hsub]
 refine (rclear_K (1 - (rr : Int)) (hd.ext hW) hn6 hpos).mono ?_
 rintro e w3 ⟨v', rfl, hdk, hx⟩
 obtain ⟨X0, X1, y0, y1, rfl⟩ := hdk.form
 replace hE := heap_ext hE hx
 replace hG := heap_ext hG hx
 replace hO := heap_ext hO hx
 replace hP := heap_ext hP hx
 replace hW := hW.trans hx
 clear e0 e1 e2 e3 e4 e5 g0 g1 g2 g3 g4 g5
 clear hx
 have e0 : w3.cell? ⟨w.heap.size, 0, none⟩ = some (.int .i64 T) := by simp [World.cell?, hE]
 have ef0 : w3.frozen? ⟨w.heap.size, 0, none⟩ = false := by simp [World.frozen?, hE]
 have e1 : w3.cell? ⟨w.heap.size, 1, none⟩ = some (.int .i64 C) := by simp [World.cell?, hE]
 have ef1 : w3.frozen? ⟨w.heap.size, 1, none⟩ = false := by simp [World.frozen?, hE]
 have e2 : w3.cell? ⟨w.heap.size, 2, none⟩ = some (.slice A q c) := by simp [World.cell?, hE]
 have ef2 : w3.frozen? ⟨w.heap.size, 2, none⟩ = false := by simp [World.frozen?, hE]
 have e3 : w3.cell? ⟨w.heap.size, 3, none⟩ = some (.int .u64 (RN : Int)) := by simp [World.cell?, hE]
 have ef3 : w3.frozen? ⟨w.heap.size, 3, none⟩ = false := by simp [World.frozen?, hE]
 have e4 : w3.cell? ⟨w.heap.size, 4, none⟩ = some (.slice A0 n c0) := by simp [World.cell?, hE]
 have ef4 : w3.frozen? ⟨w.heap.size, 4, none⟩ = false := by simp [World.frozen?, hE]
 have e5 : w3.cell? ⟨w.heap.size, 5, none⟩ = some (.slice A1 n c1) := by simp [World.cell?, hE]
 have ef5 : w3.frozen? ⟨w.heap.size, 5, none⟩ = false := by simp [World.frozen?, hE]
 go_upto_region 18 with (fail)
 have hE3 : (((w3.setCell ⟨w.heap.size, 3, none⟩ (.int .u64 (RN : Int))).setCell ⟨w.heap.size, 4, none⟩ (.slice X0 n y0)).setCell ⟨w.heap.size, 5, none⟩ (.slice X1 n y1)).heap[w.heap.size]? = some (.cells #[.int .i64 T, .int .i64 C, .slice A q c, .int .u64 (RN : Int), .slice X0 n y0, .slice X1 n y1] 32 (0, 0)) := heap_setCell_at (heap_setCell_at (heap_setCell_at hE))
 have hO3 : (((w3.setCell ⟨w.heap.size, 3, none⟩ (.int .u64 (RN : Int))).setCell ⟨w.heap.size, 4, none⟩ (.slice X0 n y0)).setCell ⟨w.heap.size, 5, none⟩ (.slice X1 n y1)).heap[w.heap.size + 1 + 1]? = some (.cells #[.int .i64 0, .int .i64 0, .slice none 0 0, .int .u64 0, .slice none 0 0, .slice none 0 0] 32 (0, 0)) := (setAll_other (g := w.heap.size) (by omega) [.int .u64 (RN : Int), .slice X0 n y0, .slice X1 n y1] 3 w3).trans hO
 have hP3 : (((w3.setCell ⟨w.heap.size, 3, none⟩ (.int .u64 (RN : Int))).setCell ⟨w.heap.size, 4, none⟩ (.slice X0 n y0)).setCell ⟨w.heap.size, 5, none⟩ (.slice X1 n y1)).heap[w.heap.size + 1 + 1 + 1]? = some (.cells #[.int .u64 0, .slice none 0 0, .bool false] 51 (0, 0)) := (setAll_other (g := w.heap.size) (by omega) [.int .u64 (RN : Int), .slice X0 n y0, .slice X1 n y1] 3 w3).trans hP
 have hW3 : Ext w (((w3.setCell ⟨w.heap.size, 3, none⟩ (.int .u64 (RN : Int))).setCell ⟨w.heap.size, 4, none⟩ (.slice X0 n y0)).setCell ⟨w.heap.size, 5, none⟩ (.slice X1 n y1)) := setAll_ext (g := w.heap.size) (vs := [.int .u64 (RN : Int), .slice X0 n y0, .slice X1 n y1]) (i := 3) hW (Nat.le_refl _)
 replace hdk := hdk.but (But.all w.heap.size [.int .u64 (RN : Int), .slice X0 n y0, .slice X1 n y1] 3 w3) hE rfl
 change DkK (((w3.setCell ⟨w.heap.size, 3, none⟩ (.int .u64 (RN : Int))).setCell ⟨w.heap.size, 4, none⟩ (.slice X0 n y0)).setCell ⟨w.heap.size, 5, none⟩ (.slice X1 n y1)) _ _ _ _ _ at hdk
 clear e0 e1 e2 e3 e4 e5 ef0 ef1 ef2 ef3 ef4 ef5 hE hG hO hP hW
 generalize (((w3.setCell ⟨w.heap.size, 3, none⟩ (.int .u64 (RN : Int))).setCell ⟨w.heap.size, 4, none⟩ (.slice X0 n y0)).setCell ⟨w.heap.size, 5, none⟩ (.slice X1 n y1)) = w4 at *
 have hE := hE3
 have hO := hO3
 have hP := hP3
 have hW := hW3
 clear hE3 hO3 hP3 hW3
 have hwv := hA.ext hW
 have hby := bytes_nil w4
 have hwl := hws2
 have e0 : w4.cell? ⟨w.heap.size, 0, none⟩ = some (.int .i64 T) := by simp [World.cell?, hE]
 have e1 : w4.cell? ⟨w.heap.size, 1, none⟩ = some (.int .i64 C) := by simp [World.cell?, hE]
 have e2 : w4.cell? ⟨w.heap.size, 2, none⟩ = some (.slice A q c) := by simp [World.cell?, hE]
 have e3 : w4.cell? ⟨w.heap.size, 3, none⟩ = some (.int .u64 (RN : Int)) := by simp [World.cell?, hE]
 have e4 : w4.cell? ⟨w.heap.size, 4, none⟩ = some (.slice X0 n y0) := by simp [World.cell?, hE]
 have e5 : w4.cell? ⟨w.heap.size, 5, none⟩ = some (.slice X1 n y1) := by simp [World.cell?, hE]
 have o0 : w4.cell? ⟨w.heap.size + 1 + 1, 0, none⟩ = some (.int .i64 0) := by simp [World.cell?, hO]
 have of0 : w4.frozen? ⟨w.heap.size + 1 + 1, 0, none⟩ = false := by simp [World.frozen?, hO]
 have o1 : w4.cell? ⟨w.heap.size + 1 + 1, 1, none⟩ = some (.int .i64 0) := by simp [World.cell?, hO]
 have of1 : w4.frozen? ⟨w.heap.size + 1 + 1, 1, none⟩ = false := by simp [World.frozen?, hO]
 have o2 : w4.cell? ⟨w.heap.size + 1 + 1, 2, none⟩ = some (.slice none 0 0) := by simp [World.cell?, hO]
 have of2 : w4.frozen? ⟨w.heap.size + 1 + 1, 2, none⟩ = false := by simp [World.frozen?, hO]
 have o3 : w4.cell? ⟨w.heap.size + 1 + 1, 3, none⟩ = some (.int .u64 0) := by simp [World.cell?, hO]
 have of3 : w4.frozen? ⟨w.heap.size + 1 + 1, 3, none⟩ = false := by simp [World.frozen?, hO]
 have o4 : w4.cell? ⟨w.heap.size + 1 + 1, 4, none⟩ = some (.slice none 0 0) := by simp [World.cell?, hO]
 have of4 : w4.frozen? ⟨w.heap.size + 1 + 1, 4, none⟩ = false := by simp [World.frozen?, hO]
 have o5 : w4.cell? ⟨w.heap.size + 1 + 1, 5, none⟩ = some (.slice none 0 0) := by simp [World.cell?, hO]
 have of5 : w4.frozen? ⟨w.heap.size + 1 + 1, 5, none⟩ = false := by simp [World.frozen?, hO]
 have p0 : w4.cell? ⟨w.heap.size + 1 + 1 + 1, 0, none⟩ = some (.int .u64 0) := by simp [World.cell?, hP]
 have pf0 : w4.frozen? ⟨w.heap.size + 1 + 1 + 1, 0, none⟩ = false := by simp [World.frozen?, hP]
 have p1 : w4.cell? ⟨w.heap.size + 1 + 1 + 1, 1, none⟩ = some (.slice none 0 0) := by simp [World.cell?, hP]
 have pf1 : w4.frozen? ⟨w.heap.size + 1 + 1 + 1, 1, none⟩ = false := by simp [World.frozen?, hP]
 have p2 : w4.cell? ⟨w.heap.size + 1 + 1 + 1, 2, none⟩ = some (.bool false) := by simp [World.cell?, hP]
 have pf2 : w4.frozen? ⟨w.heap.size + 1 + 1 + 1, 2, none⟩ = false := by simp [World.frozen?, hP]
 have hPm : (setAll (w.heap.size + 1 + 1) 0 [.int .i64 T, .int .i64 C, .slice A q c, .int .u64 (RN : Int), .slice X0 n y0, .slice X1 n y1] w4).heap[w.heap.size + 1 + 1 + 1]? = some (.cells #[.int .u64 0, .slice none 0 0, .bool false] 51 (0, 0)) := (setAll_other (g := w.heap.size + 1 + 1) (by omega) [.int .i64 T, .int .i64 C, .slice A q c, .int .u64 (RN : Int), .slice X0 n y0, .slice X1 n y1] 0 w4).trans hP
 obtain ⟨wf, hwf⟩ : ∃ wf, wf = setAll (w.heap.size + 1 + 1 + 1) 0 [.int .u64 0, .slice none 0 0, .bool false] (setAll (w.heap.size + 1 + 1) 0 [.int .i64 T, .int .i64 C, .slice A q c, .int .u64 (RN : Int), .slice X0 n y0, .slice X1 n y1] w4) := ⟨_, rfl⟩
 have hF : Ext w wf := hwf ▸ setAll_ext (g := w.heap.size + 1 + 1 + 1) (vs := [.int .u64 0, .slice none 0 0, .bool false]) (i := 0) (setAll_ext (g := w.heap.size + 1 + 1) (vs := [.int .i64 T, .int .i64 C, .slice A q c, .int .u64 (RN : Int), .slice X0 n y0, .slice X1 n y1]) (i := 0) hW (by omega)) (by omega)
 have hfO : wf.heap[w.heap.size + 1 + 1]? = some (.cells #[.int .i64 T, .int .i64 C, .slice A q c, .int .u64 (RN : Int), .slice X0 n y0, .slice X1 n y1] 32 (0, 0)) := hwf ▸ (setAll_other (g := w.heap.size + 1 + 1 + 1) (by omega) [.int .u64 0, .slice none 0 0, .bool false] 0 (setAll (w.heap.size + 1 + 1) 0 [.int .i64 T, .int .i64 C, .slice A q c, .int .u64 (RN : Int), .slice X0 n y0, .slice X1 n y1] w4)).trans (setAll_all (vs := [.int .i64 T, .int .i64 C, .slice A q c, .int .u64 (RN : Int), .slice X0 n y0, .slice X1 n y1]) hO rfl)
 have hfP : wf.heap[w.heap.size + 1 + 1 + 1]? = some (.cells #[.int .u64 0, .slice none 0 0, .bool false] 51 (0, 0)) := hwf ▸ setAll_all (vs := [.int .u64 0, .slice none 0 0, .bool false]) hPm rfl
 have hfd := (hdk.but (But.all (w.heap.size + 1 + 1) [.int .i64 T, .int .i64 C, .slice A q c, .int .u64 (RN : Int), .slice X0 n y0, .slice X1 n y1] 0 w4) hO rfl).but (But.all (w.heap.size + 1 + 1 + 1) [.int .u64 0, .slice none 0 0, .bool false] 0 _) hPm rfl
 have hfb := BytesV.but (BytesV.but hby (But.all (w.heap.size + 1 + 1) [.int .i64 T, .int .i64 C, .slice A q c, .int .u64 (RN : Int), .slice X0 n y0, .slice X1 n y1] 0 w4) hO rfl) (But.all (w.heap.size + 1 + 1 + 1) [.int .u64 0, .slice none 0 0, .bool false] 0 _) hPm rfl
 have hfw := WordsV.but (WordsV.but hwv hwl (But.all (w.heap.size + 1 + 1) [.int .i64 T, .int .i64 C, .slice A q c, .int .u64 (RN : Int), .slice X0 n y0, .slice X1 n y1] 0 w4) hO rfl) hwl (But.all (w.heap.size + 1 + 1 + 1) [.int .u64 0, .slice none 0 0, .bool false] 0 _) hPm rfl
 rw [← hwf] at hfd hfb hfw
 simp only [setAll] at hwf
 have HWF := Lib.hid hwf
 clear hwf hE hO hP hPm hdk hby hwv hW
 go_wp2_with fail
 rw [← HWF.out]
 clear HWF e0 e1 e2 e3 e4 e5 o0 o1 o2 o3 o4 o5 of0 of1 of2 of3 of4 of5 p0 p1 p2 pf0 pf1 pf2
 have o0 : wf.cell? ⟨w.heap.size + 1 + 1, 0, none⟩ = some (.int .i64 T) := by simp [World.cell?, hfO]
 have o1 : wf.cell? ⟨w.heap.size + 1 + 1, 1, none⟩ = some (.int .i64 C) := by simp [World.cell?, hfO]
 have o2 : wf.cell? ⟨w.heap.size + 1 + 1, 2, none⟩ = some (.slice A q c) := by simp [World.cell?, hfO]
 have o3 : wf.cell? ⟨w.heap.size + 1 + 1, 3, none⟩ = some (.int .u64 (RN : Int)) := by simp [World.cell?, hfO]
 have o4 : wf.cell? ⟨w.heap.size + 1 + 1, 4, none⟩ = some (.slice X0 n y0) := by simp [World.cell?, hfO]
 have o5 : wf.cell? ⟨w.heap.size + 1 + 1, 5, none⟩ = some (.slice X1 n y1) := by simp [World.cell?, hfO]
 have p0 : wf.cell? ⟨w.heap.size + 1 + 1 + 1, 0, none⟩ = some (.int .u64 0) := by simp [World.cell?, hfP]
 have p1 : wf.cell? ⟨w.heap.size + 1 + 1 + 1, 1, none⟩ = some (.slice none 0 0) := by simp [World.cell?, hfP]
 have p2 : wf.cell? ⟨w.heap.size + 1 + 1 + 1, 2, none⟩ = some (.bool false) := by simp [World.cell?, hfP]
 refine bodyPost_ret (v := .tuple #[.agg #[.int .i64 T, .int .i64 C, .slice A q c, .int .u64 (RN : Int), .slice X0 n y0, .slice X1 n y1], .agg #[.int .u64 0, .slice none 0 0, .bool false]]) (by simp [results, Try.results19, go_sem, o0, o1, o2, o3, o4, o5, p0, p1, p2]) rfl ⟨_, _, rfl, ⟨_, _, _, _, _, _, _, rfl, hfw, hfd⟩, ⟨_, _, _, rfl, hfb⟩, hF⟩
set_option maxRecDepth 100000 in
set_option maxHeartbeats 2000000 in
theorem rdo_10 (T C : Int) (A : Option Addr) (q c : Nat) (ws : List Int) (RN n : Nat) (A0 A1 : Option Addr) (c0 c1 : Nat) (K0 K1 : List Key) (me ce a b : Int) (D : Option Addr) (m cd : Nat) (B : Option Addr) (q2 cb : Nat) (dat : List UInt8) (wd : List Int) (w : World) (hA : WordsV w A q c ws) (hd : DkK w (.agg #[.int .u64 (RN : Int), .slice A0 n c0, .slice A1 n c1]) (RN : Int) n K0 K1)
  (hB : BytesV w D m cd dat) (hwd : WordsV w B q2 cb wd) (ha : 0 ≤ a ∧ a < 18446744073709551616) (hb : 0 ≤ b ∧ b < 18446744073709551616) {mF : Nat} (hF : Fit ⟨T, C, ws, RN, n, K0, K1⟩ mF) (hmF : m = mF) :
  Calls Try.prog 19 #[.agg #[.int .i64 T, .int .i64 C, .slice A q c, .int .u64 (RN : Int), .slice A0 n c0, .slice A1 n c1], .int .i64 me, .agg #[.int .i64 10, .int .i64 ce, .int .u64 a, .int .u64 b, .slice D m cd, .slice B q2 cb], .bool false] w (DoPost (⟨T, C, ws, RN, n, act0 (1 - ((RN : Int) % 2)) 0 (appK dat) K0, act1 (1 - ((RN : Int) % 2)) 0 (appK dat) K1⟩ : WldK) ResK.zero w) := by
 have hlen := hA.len
 have hlen2 := hwd.len
 have hpos : 0 < n := hF.pos
 have hn : n ≤ 64 := hF.le
 have hn6 : n ≤ 65536 := by omega
 have hR : RN < 18446744073709551616 := by have := hF.root.2; simp only at this; omega
 have hws2 : 2 ≤ ws.length := hF.ws.1
 have hws6 : ws.length ≤ 65536 := hF.ws.2
 have hm0 : ∀ x ∈ K0, x.1.length + mF ≤ 65536 := hF.k0
 have hm1 : ∀ x ∈ K1, x.1.length + mF ≤ 65536 := hF.k1
 have hs0 : ∀ x ∈ K0, x.1.length ≤ 65536 := fun x hx => by have := hm0 x hx; omega
 have hs1 : ∀ x ∈ K1, x.1.length ≤ 65536 := fun x hx => by have := hm1 x hx; omega
 clear hF
 subst hmF
 obtain ⟨rr, hrr, hr2⟩ : ∃ rr, RN % 2 = rr ∧ rr < 2 := ⟨_, rfl, Nat.mod_lt _ (by omega)⟩
 have hri : (RN : Int) % 2 = (rr : Int) := by omega
 have hsub : IntKind.i64.wrap (1 - (rr : Int)) = 1 - (rr : Int) := by rw [IntKind.wrap_i64]; omega
 have hm : Int.tmod (RN : Int) 2 = (rr : Int) := by rw [Int.tmod_eq_emod_of_nonneg (by omega)]; omega
 have hw1 : IntKind.u64.wrap (rr : Int) = (rr : Int) := by rw [IntKind.wrap_u64]; omega
 have hw2 : IntKind.i64.wrap (rr : Int) = (rr : Int) := by rw [IntKind.wrap_i64]; omega
 try rw [hri]
 clear hrr hri
 go_enter Try.func19, Try.ntmps19
 go_upto_region 1 with (fail)
 obtain ⟨hW, hE, hG, hO, hP⟩ := boxes4 w (.cells #[.int .i64 T, .int .i64 C, .slice A q c, .int .u64 (RN : Int), .slice A0 n c0, .slice A1 n c1] 32) (.cells #[.int .i64 10, .int .i64 ce, .int .u64 a, .int .u64 b, .slice D m cd, .slice B q2 cb] 42) (.cells #[.int .i64 0, .int .i64 0, .slice none 0 0, .int .u64 0, .slice none 0 0, .slice none 0 0] 32) (.cells #[.int .u64 0, .slice none 0 0, .bool false] 51)
 generalize (((w.alloc (.cells #[.int .i64 T, .int .i64 C, .slice A q c, .int .u64 (RN : Int), .slice A0 n c0, .slice A1 n c1] 32)).alloc (.cells #[.int .i64 10, .int .i64 ce, .int .u64 a, .int .u64 b, .slice D m cd, .slice B q2 cb] 42)).alloc (.cells #[.int .i64 0, .int .i64 0, .slice none 0 0, .int .u64 0, .slice none 0 0, .slice none 0 0] 32)).alloc (.cells #[.int .u64 0, .slice none 0 0, .bool false] 51) = W at *
 have hlt : w.heap.size + 1 + 1 + 1 < W.heap.size := (Array.getElem?_eq_some_iff.1 hP).1
 have e0 : W.cell? ⟨w.heap.size, 0, none⟩ = some (.int .i64 T) := by simp [World.cell?, hE]
 have e1 : W.cell? ⟨w.heap.size, 1, none⟩ = some (.int .i64 C) := by simp [World.cell?, hE]
 have e2 : W.cell? ⟨w.heap.size, 2, none⟩ = some (.slice A q c) := by simp [World.cell?, hE]
 have e3 : W.cell? ⟨w.heap.size, 3, none⟩ = some (.int .u64 (RN : Int)) := by simp [World.cell?, hE]
 have e4 : W.cell? ⟨w.heap.size, 4, none⟩ = some (.slice A0 n c0) := by simp [World.cell?, hE]
 have e5 : W.cell? ⟨w.heap.size, 5, none⟩ = some (.slice A1 n c1) := by simp [World.cell?, hE]
 have g0 : W.cell? ⟨w.heap.size + 1, 0, none⟩ = some (.int .i64 10) := by simp [World.cell?, hG]
 have g1 : W.cell? ⟨w.heap.size + 1, 1, none⟩ = some (.int .i64 ce) := by simp [World.cell?, hG]
 have g2 : W.cell? ⟨w.heap.size + 1, 2, none⟩ = some (.int .u64 a) := by simp [World.cell?, hG]
 have g3 : W.cell? ⟨w.heap.size + 1, 3, none⟩ = some (.int .u64 b) := by simp [World.cell?, hG]
 have g4 : W.cell? ⟨w.heap.size + 1, 4, none⟩ = some (.slice D m cd) := by simp [World.cell?, hG]
 have g5 : W.cell? ⟨w.heap.size + 1, 5, none⟩ = some (.slice B q2 cb) := by simp [World.cell?, hG]
 go_upto_region 2 with (fail)
 clear hm hw1 hw2
 go_wp2_with fail
 try rw [hsub]
 refine (rappend_K (1 - (rr : Int)) 0 (hd.ext hW) hn6 (hB.ext hW) hm0 hm1).mono ?_
 rintro e w3 ⟨v', rfl, hdk, hx⟩
 obtain ⟨X0, X1, y0, y1, rfl⟩ := hdk.form
 replace hE := heap_ext hE hx
 replace hG := heap_ext hG hx
 replace hO := heap_ext hO hx
 replace hP := heap_ext hP hx
 replace hW := hW.trans hx
 clear e0 e1 e2 e3 e4 e5 g0 g1 g2 g3 g4 g5
 clear hx
 have e0 : w3.cell? ⟨w.heap.size, 0, none⟩ = some (.int .i64 T) := by simp [World.cell?, hE]
 have ef0 : w3.frozen? ⟨w.heap.size, 0, none⟩ = false := by simp [World.frozen?, hE]
 have e1 : w3.cell? ⟨w.heap.size, 1, none⟩ = some (.int .i64 C) := by simp [World.cell?, hE]
 have ef1 : w3.frozen? ⟨w.heap.size, 1, none⟩ = false := by simp [World.frozen?, hE]
 have e2 : w3.cell? ⟨w.heap.size, 2, none⟩ = some (.slice A q c) := by simp [World.cell?, hE]
 have ef2 : w3.frozen? ⟨w.heap.size, 2, none⟩ = false := by simp [World.frozen?, hE]
 have e3 : w3.cell? ⟨w.heap.size, 3, none⟩ = some (.int .u64 (RN : Int)) := by simp [World.cell?, hE]
 have ef3 : w3.frozen? ⟨w.heap.size, 3, none⟩ = false := by simp [World.frozen?, hE]
 have e4 : w3.cell? ⟨w.heap.size, 4, none⟩ = some (.slice A0 n c0) := by simp [World.cell?, hE]
 have ef4 : w3.frozen? ⟨w.heap.size, 4, none⟩ = false := by simp [World.frozen?, hE]
 have e5 : w3.cell? ⟨w.heap.size, 5, none⟩ = some (.slice A1 n c1) := by simp [World.cell?, hE]
 have ef5 : w3.frozen? ⟨w.heap.size, 5, none⟩ = false := by simp [World.frozen?, hE]
 go_upto_region 21 with (fail)
 have hE3 : (((w3.setCell ⟨w.heap.size, 3, none⟩ (.int .u64 (RN : Int))).setCell ⟨w.heap.size, 4, none⟩ (.slice X0 n y0)).setCell ⟨w.heap.size, 5, none⟩ (.slice X1 n y1)).heap[w.heap.size]? = some (.cells #[.int .i64 T, .int .i64 C, .slice A q c, .int .u64 (RN : Int), .slice X0 n y0, .slice X1 n y1] 32 (0, 0)) := heap_setCell_at (heap_setCell_at (heap_setCell_at hE))
 have hO3 : (((w3.setCell ⟨w.heap.size, 3, none⟩ (.int .u64 (RN : Int))).setCell ⟨w.heap.size, 4, none⟩ (.slice X0 n y0)).setCell ⟨w.heap.size, 5, none⟩ (.slice X1 n y1)).heap[w.heap.size + 1 + 1]? = some (.cells #[.int .i64 0, .int .i64 0, .slice none 0 0, .int .u64 0, .slice none 0 0, .slice none 0 0] 32 (0, 0)) := (setAll_other (g := w.heap.size) (by omega) [.int .u64 (RN : Int), .slice X0 n y0, .slice X1 n y1] 3 w3).trans hO
 have hP3 : (((w3.setCell ⟨w.heap.size, 3, none⟩ (.int .u64 (RN : Int))).setCell ⟨w.heap.size, 4, none⟩ (.slice X0 n y0)).setCell ⟨w.heap.size, 5, none⟩ (.slice X1 n y1)).heap[w.heap.size + 1 + 1 + 1]? = some (.cells #[.int .u64 0, .slice none 0 0, .bool false] 51 (0, 0)) := (setAll_other (g := w.heap.size) (by omega) [.int .u64 (RN : Int), .slice X0 n y0, .slice X1 n y1] 3 w3).trans hP
 have hW3 : Ext w (((w3.setCell ⟨w.heap.size, 3, none⟩ (.int .u64 (RN : Int))).setCell ⟨w.heap.size, 4, none⟩ (.slice X0 n y0)).setCell ⟨w.heap.size, 5, none⟩ (.slice X1 n y1)) := setAll_ext (g := w.heap.size) (vs := [.int .u64 (RN : Int), .slice X0 n y0, .slice X1 n y1]) (i := 3) hW (Nat.le_refl _)
 replace hdk := hdk.but (But.all w.heap.size [.int .u64 (RN : Int), .slice X0 n y0, .slice X1 n y1] 3 w3) hE rfl
 change DkK (((w3.setCell ⟨w.heap.size, 3, none⟩ (.int .u64 (RN : Int))).setCell ⟨w.heap.size, 4, none⟩ (.slice X0 n y0)).setCell ⟨w.heap.size, 5, none⟩ (.slice X1 n y1)) _ _ _ _ _ at hdk
 clear e0 e1 e2 e3 e4 e5 ef0 ef1 ef2 ef3 ef4 ef5 hE hG hO hP hW
 generalize (((w3.setCell ⟨w.heap.size, 3, none⟩ (.int .u64 (RN : Int))).setCell ⟨w.heap.size, 4, none⟩ (.slice X0 n y0)).setCell ⟨w.heap.size, 5, none⟩ (.slice X1 n y1)) = w4 at *
 have hE := hE3
 have hO := hO3
 have hP := hP3
 have hW := hW3
 clear hE3 hO3 hP3 hW3
 have hwv := hA.ext hW
 have hby := bytes_nil w4
 have hwl := hws2
 have e0 : w4.cell? ⟨w.heap.size, 0, none⟩ = some (.int .i64 T) := by simp [World.cell?, hE]
 have e1 : w4.cell? ⟨w.heap.size, 1, none⟩ = some (.int .i64 C) := by simp [World.cell?, hE]
 have e2 : w4.cell? ⟨w.heap.size, 2, none⟩ = some (.slice A q c) := by simp [World.cell?, hE]
 have e3 : w4.cell? ⟨w.heap.size, 3, none⟩ = some (.int .u64 (RN : Int)) := by simp [World.cell?, hE]
 have e4 : w4.cell? ⟨w.heap.size, 4, none⟩ = some (.slice X0 n y0) := by simp [World.cell?, hE]
 have e5 : w4.cell? ⟨w.heap.size, 5, none⟩ = some (.slice X1 n y1) := by simp [World.cell?, hE]
 have o0 : w4.cell? ⟨w.heap.size + 1 + 1, 0, none⟩ = some (.int .i64 0) := by simp [World.cell?, hO]
 have of0 : w4.frozen? ⟨w.heap.size + 1 + 1, 0, none⟩ = false := by simp [World.frozen?, hO]
 have o1 : w4.cell? ⟨w.heap.size + 1 + 1, 1, none⟩ = some (.int .i64 0) := by simp [World.cell?, hO]
 have of1 : w4.frozen? ⟨w.heap.size + 1 + 1, 1, none⟩ = false := by simp [World.frozen?, hO]
 have o2 : w4.cell? ⟨w.heap.size + 1 + 1, 2, none⟩ = some (.slice none 0 0) := by simp [World.cell?, hO]
 have of2 : w4.frozen? ⟨w.heap.size + 1 + 1, 2, none⟩ = false := by simp [World.frozen?, hO]
 have o3 : w4.cell? ⟨w.heap.size + 1 + 1, 3, none⟩ = some (.int .u64 0) := by simp [World.cell?, hO]
 have of3 : w4.frozen? ⟨w.heap.size + 1 + 1, 3, none⟩ = false := by simp [World.frozen?, hO]
 have o4 : w4.cell? ⟨w.heap.size + 1 + 1, 4, none⟩ = some (.slice none 0 0) := by simp [World.cell?, hO]
 have of4 : w4.frozen? ⟨w.heap.size + 1 + 1, 4, none⟩ = false := by simp [World.frozen?, hO]
 have o5 : w4.cell? ⟨w.heap.size + 1 + 1, 5, none⟩ = some (.slice none 0 0) := by simp [World.cell?, hO]
 have of5 : w4.frozen? ⟨w.heap.size + 1 + 1, 5, none⟩ = false := by simp [World.frozen?, hO]
 have p0 : w4.cell? ⟨w.heap.size + 1 + 1 + 1, 0, none⟩ = some (.int .u64 0) := by simp [World.cell?, hP]
 have pf0 : w4.frozen? ⟨w.heap.size + 1 + 1 + 1, 0, none⟩ = false := by simp [World.frozen?, hP]
 have p1 : w4.cell? ⟨w.heap.size + 1 + 1 + 1, 1, none⟩ = some (.slice none 0 0) := by simp [World.cell?, hP]
 have pf1 : w4.frozen? ⟨w.heap.size + 1 + 1 + 1, 1, none⟩ = false := by simp [World.frozen?, hP]
 have p2 : w4.cell? ⟨w.heap.size + 1 + 1 + 1, 2, none⟩ = some (.bool false) := by simp [World.cell?, hP]
 have pf2 : w4.frozen? ⟨w.heap.size + 1 + 1 + 1, 2, none⟩ = false := by simp [World.frozen?, hP]
 have hPm : (setAll (w.heap.size + 1 + 1) 0 [.int .i64 T, .int .i64 C, .slice A q c, .int .u64 (RN : Int), .slice X0 n y0, .slice X1 n y1] w4).heap[w.heap.size + 1 + 1 + 1]? = some (.cells #[.int .u64 0, .slice none 0 0, .bool false] 51 (0, 0)) := (setAll_other (g := w.heap.size + 1 + 1) (by omega) [.int .i64 T, .int .i64 C, .slice A q c, .int .u64 (RN : Int), .slice X0 n y0, .slice X1 n y1] 0 w4).trans hP
 obtain ⟨wf, hwf⟩ : ∃ wf, wf = setAll (w.heap.size + 1 + 1 + 1) 0 [.int .u64 0, .slice none 0 0, .bool false] (setAll (w.heap.size + 1 + 1) 0 [.int .i64 T, .int .i64 C, .slice A q c, .int .u64 (RN : Int), .slice X0 n y0, .slice X1 n y1] w4) := ⟨_, rfl⟩
 have hF : Ext w wf := hwf ▸ setAll_ext (g := w.heap.size + 1 + 1 + 1) (vs := [.int .u64 0, .slice none 0 0, .bool false]) (i := 0) (setAll_ext (g := w.heap.size + 1 + 1) (vs := [.int .i64 T, .int .i64 C, .slice A q c, .int .u64 (RN : Int), .slice X0 n y0, .slice X1 n y1]) (i := 0) hW (by omega)) (by omega)
 have hfO : wf.heap[w.heap.size + 1 + 1]? = some (.cells #[.int .i64 T, .int .i64 C, .slice A q c, .int .u64 (RN : Int), .slice X0 n y0, .slice X1 n y1] 32 (0, 0)) := hwf ▸ (setAll_other (g := w.heap.size + 1 + 1 + 1) (by omega) [.int .u64 0, .slice none 0 0, .bool false] 0 (setAll (w.heap.size + 1 + 1) 0 [.int .i64 T, .int .i64 C, .slice A q c, .int .u64 (RN : Int), .slice X0 n y0, .slice X1 n y1] w4)).trans (setAll_all (vs := [.int .i64 T, .int .i64 C, .slice A q c, .int .u64 (RN : Int), .slice X0 n y0, .slice X1 n y1]) hO rfl)
 have hfP : wf.heap[w.heap.size + 1 + 1 + 1]? = some (.cells #[.int .u64 0, .slice none 0 0, .bool false] 51 (0, 0)) := hwf ▸ setAll_all (vs := [.int .u64 0, .slice none 0 0, .bool false]) hPm rfl
 have hfd := (hdk.but (But.all (w.heap.size + 1 + 1) [.int .i64 T, .int .i64 C, .slice A q c, .int .u64 (RN : Int), .slice X0 n y0, .slice X1 n y1] 0 w4) hO rfl).but (But.all (w.heap.size + 1 + 1 + 1) [.int .u64 0, .slice none 0 0, .bool false] 0 _) hPm rfl
 have hfb := BytesV.but (BytesV.but hby (But.all (w.heap.size + 1 + 1) [.int .i64 T, .int .i64 C, .slice A q c, .int .u64 (RN : Int), .slice X0 n y0, .slice X1 n y1] 0 w4) hO rfl) (But.all (w.heap.size + 1 + 1 + 1) [.int .u64 0, .slice none 0 0, .bool false] 0 _) hPm rfl
 have hfw := WordsV.but (WordsV.but hwv hwl (But.all (w.heap.size + 1 + 1) [.int .i64 T, .int .i64 C, .slice A q c, .int .u64 (RN : Int), .slice X0 n y0, .slice X1 n y1] 0 w4) hO rfl) hwl (But.all (w.heap.size + 1 + 1 + 1) [.int .u64 0, .slice none 0 0, .bool false] 0 _) hPm rfl
 rw [← hwf] at hfd hfb hfw
 simp only [setAll] at hwf
 have HWF := Lib.hid hwf
 clear hwf hE hO hP hPm hdk hby hwv hW
 go_wp2_with fail
 rw [← HWF.out]
 clear HWF e0 e1 e2 e3 e4 e5 o0 o1 o2 o3 o4 o5 of0 of1 of2 of3 of4 of5 p0 p1 p2 pf0 pf1 pf2
 have o0 : wf.cell? ⟨w.heap.size + 1 + 1, 0, none⟩ = some (.int .i64 T) := by simp [World.cell?, hfO]
 have o1 : wf.cell? ⟨w.heap.size + 1 + 1, 1, none⟩ = some (.int .i64 C) := by simp [World.cell?, hfO]
 have o2 : wf.cell? ⟨w.heap.size + 1 + 1, 2, none⟩ = some (.slice A q c) := by simp [World.cell?, hfO]
 have o3 : wf.cell? ⟨w.heap.size + 1 + 1, 3, none⟩ = some (.int .u64 (RN : Int)) := by simp [World.cell?, hfO]
 have o4 : wf.cell? ⟨w.heap.size + 1 + 1, 4, none⟩ = some (.slice X0 n y0) := by simp [World.cell?, hfO]
 have o5 : wf.cell? ⟨w.heap.size + 1 + 1, 5, none⟩ = some (.slice X1 n y1) := by simp [World.cell?, hfO]
 have p0 : wf.cell? ⟨w.heap.size + 1 + 1 + 1, 0, none⟩ = some (.int .u64 0) := by simp [World.cell?, hfP]
 have p1 : wf.cell? ⟨w.heap.size + 1 + 1 + 1, 1, none⟩ = some (.slice none 0 0) := by simp [World.cell?, hfP]
 have p2 : wf.cell? ⟨w.heap.size + 1 + 1 + 1, 2, none⟩ = some (.bool false) := by simp [World.cell?, hfP]
 refine bodyPost_ret (v := .tuple #[.agg #[.int .i64 T, .int .i64 C, .slice A q c, .int .u64 (RN : Int), .slice X0 n y0, .slice X1 n y1], .agg #[.int .u64 0, .slice none 0 0, .bool false]]) (by simp [results, Try.results19, go_sem, o0, o1, o2, o3, o4, o5, p0, p1, p2]) rfl ⟨_, _, rfl, ⟨_, _, _, _, _, _, _, rfl, hfw, hfd⟩, ⟨_, _, _, rfl, hfb⟩, hF⟩
set_option maxRecDepth 100000 in
set_option maxHeartbeats 2000000 in
theorem rdo_11 (T C : Int) (A : Option Addr) (q c : Nat) (ws : List Int) (RN n : Nat) (A0 A1 : Option Addr) (c0 c1 : Nat) (K0 K1 : List Key) (me ce a b : Int) (D : Option Addr) (m cd : Nat) (B : Option Addr) (q2 cb : Nat) (dat : List UInt8) (wd : List Int) (w : World) (hA : WordsV w A q c ws) (hd : DkK w (.agg #[.int .u64 (RN : Int), .slice A0 n c0, .slice A1 n c1]) (RN : Int) n K0 K1)
  (hB : BytesV w D m cd dat) (hwd : WordsV w B q2 cb wd) (ha : 0 ≤ a ∧ a < 18446744073709551616) (hb : 0 ≤ b ∧ b < 18446744073709551616) {mF : Nat} (hF : Fit ⟨T, C, ws, RN, n, K0, K1⟩ mF) (hmF : m = mF) :
  Calls Try.prog 19 #[.agg #[.int .i64 T, .int .i64 C, .slice A q c, .int .u64 (RN : Int), .slice A0 n c0, .slice A1 n c1], .int .i64 me, .agg #[.int .i64 11, .int .i64 ce, .int .u64 a, .int .u64 b, .slice D m cd, .slice B q2 cb], .bool false] w (DoPost (⟨T, C, ws, RN, n, act0 (1 - ((RN : Int) % 2)) 0 synK K0, act1 (1 - ((RN : Int) % 2)) 0 synK K1⟩ : WldK) ResK.zero w) := by
 have hlen := hA.len
 have hlen2 := hwd.len
 have hpos : 0 < n := hF.pos
 have hn : n ≤ 64 := hF.le
 have hn6 : n ≤ 65536 := by omega
 have hR : RN < 18446744073709551616 := by have := hF.root.2; simp only at this; omega
 have hws2 : 2 ≤ ws.length := hF.ws.1
 have hws6 : ws.length ≤ 65536 := hF.ws.2
 have hm0 : ∀ x ∈ K0, x.1.length + mF ≤ 65536 := hF.k0
 have hm1 : ∀ x ∈ K1, x.1.length + mF ≤ 65536 := hF.k1
 have hs0 : ∀ x ∈ K0, x.1.length ≤ 65536 := fun x hx => by have := hm0 x hx; omega
 have hs1 : ∀ x ∈ K1, x.1.length ≤ 65536 := fun x hx => by have := hm1 x hx; omega
 clear hF
 subst hmF
 obtain ⟨rr, hrr, hr2⟩ : ∃ rr, RN % 2 = rr ∧ rr < 2 := ⟨_, rfl, Nat.mod_lt _ (by omega)⟩
 have hri : (RN : Int) % 2 = (rr : Int) := by omega
 have hsub : IntKind.i64.wrap (1 - (rr : Int)) = 1 - (rr : Int) := by rw [IntKind.wrap_i64]; omega
 have hm : Int.tmod (RN : Int) 2 = (rr : Int) := by rw [Int.tmod_eq_emod_of_nonneg (by omega)]; omega
 have hw1 : IntKind.u64.wrap (rr : Int) = (rr : Int) := by rw [IntKind.wrap_u64]; omega
 have hw2 : IntKind.i64.wrap (rr : Int) = (rr : Int) := by rw [IntKind.wrap_i64]; omega
 try rw [hri]
 clear hrr hri
 go_enter Try.func19, Try.ntmps19
 go_upto_region 1 with (fail)
 obtain ⟨hW, hE, hG, hO, hP⟩ := boxes4 w (.cells #[.int .i64 T, .int .i64 C, .slice A q c, .int .u64 (RN : Int), .slice A0 n c0, .slice A1 n c1] 32) (.cells #[.int .i64 11, .int .i64 ce, .int .u64 a, .int .u64 b, .slice D m cd, .slice B q2 cb] 42) (.cells #[.int .i64 0, .int .i64 0, .slice none 0 0, .int .u64 0, .slice none 0 0, .slice none 0 0] 32) (.cells #[.int .u64 0, .slice none 0 0, .bool false] 51)
 generalize (((w.alloc (.cells #[.int .i64 T, .int .i64 C, .slice A q c, .int .u64 (RN : Int), .slice A0 n c0, .slice A1 n c1] 32)).alloc (.cells #[.int .i64 11, .int .i64 ce, .int .u64 a, .int .u64 b, .slice D m cd, .slice B q2 cb] 42)).alloc (.cells #[.int .i64 0, .int .i64 0, .slice none 0 0, .int .u64 0, .slice none 0 0, .slice none 0 0] 32)).alloc (.cells #[.int .u64 0, .slice none 0 0, .bool false] 51) = W at *
 have hlt : w.heap.size + 1 + 1 + 1 < W.heap.size := (Array.getElem?_eq_some_iff.1 hP).1
 have e0 : W.cell? ⟨w.heap.size, 0, none⟩ = some (.int .i64 T) := by simp [World.cell?, hE]
 have e1 : W.cell? ⟨w.heap.size, 1, none⟩ = some (.int .i64 C) := by simp [World.cell?, hE]
 have e2 : W.cell? ⟨w.heap.size, 2, none⟩ = some (.slice A q c) := by simp [World.cell?, hE]
 have e3 : W.cell? ⟨w.heap.size, 3, none⟩ = some (.int .u64 (RN : Int)) := by simp [World.cell?, hE]
 have e4 : W.cell? ⟨w.heap.size, 4, none⟩ = some (.slice A0 n c0) := by simp [World.cell?, hE]
 have e5 : W.cell? ⟨w.heap.size, 5, none⟩ = some (.slice A1 n c1) := by simp [World.cell?, hE]
 have g0 : W.cell? ⟨w.heap.size + 1, 0, none⟩ = some (.int .i64 11) := by simp [World.cell?, hG]
 have g1 : W.cell? ⟨w.heap.size + 1, 1, none⟩ = some (.int .i64 ce) := by simp [World.cell?, hG]
 have g2 : W.cell? ⟨w.heap.size + 1, 2, none⟩ = some (.int .u64 a) := by simp [World.cell?, hG]
 have g3 : W.cell? ⟨w.heap.size + 1, 3, none⟩ = some (.int .u64 b) := by simp [World.cell?, hG]
 have g4 : W.cell? ⟨w.heap.size + 1, 4, none⟩ = some (.slice D m cd) := by simp [World.cell?, hG]
 have g5 : W.cell? ⟨w.heap.size + 1, 5, none⟩ = some (.slice B q2 cb) := by simp [World.cell?, hG]
 go_upto_region 2 with (fail)
 clear hm hw1 hw2
 go_wp2_with fail
 try rw [hsub]
 refine (rsync_K (1 - (rr : Int)) 0 (hd.ext hW) hn6 hs0 hs1).mono ?_
 rintro e w3 ⟨v', rfl, hdk, hx⟩
 obtain ⟨X0, X1, y0, y1, rfl⟩ := hdk.form
 replace hE := heap_ext hE hx
 replace hG := heap_ext hG hx
 replace hO := heap_ext hO hx
 replace hP := heap_ext hP hx
 replace hW := hW.trans hx
 clear e0 e1 e2 e3 e4 e5 g0 g1 g2 g3 g4 g5
 clear hx
 have e0 : w3.cell? ⟨w.heap.size, 0, none⟩ = some (.int .i64 T) := by simp [World.cell?, hE]
 have ef0 : w3.frozen? ⟨w.heap.size, 0, none⟩ = false := by simp [World.frozen?, hE]
 have e1 : w3.cell? ⟨w.heap.size, 1, none⟩ = some (.int .i64 C) := by simp [World.cell?, hE]
 have ef1 : w3.frozen? ⟨w.heap.size, 1, none⟩ = false := by simp [World.frozen?, hE]
 have e2 : w3.cell? ⟨w.heap.size, 2, none⟩ = some (.slice A q c) := by simp [World.cell?, hE]
 have ef2 : w3.frozen? ⟨w.heap.size, 2, none⟩ = false := by simp [World.frozen?, hE]
 have e3 : w3.cell? ⟨w.heap.size, 3, none⟩ = some (.int .u64 (RN : Int)) := by simp [World.cell?, hE]
 have ef3 : w3.frozen? ⟨w.heap.size, 3, none⟩ = false := by simp [World.frozen?, hE]
 have e4 : w3.cell? ⟨w.heap.size, 4, none⟩ = some (.slice A0 n c0) := by simp [World.cell?, hE]
 have ef4 : w3.frozen? ⟨w.heap.size, 4, none⟩ = false := by simp [World.frozen?, hE]
 have e5 : w3.cell? ⟨w.heap.size, 5, none⟩ = some (.slice A1 n c1) := by simp [World.cell?, hE]
 have ef5 : w3.frozen? ⟨w.heap.size, 5, none⟩ = false := by simp [World.frozen?, hE]
 go_upto_region 24 with (fail)
 have hE3 : (((w3.setCell ⟨w.heap.size, 3, none⟩ (.int .u64 (RN : Int))).setCell ⟨w.heap.size, 4, none⟩ (.slice X0 n y0)).setCell ⟨w.heap.size, 5, none⟩ (.slice X1 n y1)).heap[w.heap.size]? = some (.cells #[.int .i64 T, .int .i64 C, .slice A q c, .int .u64 (RN : Int), .slice X0 n y0, .slice X1 n y1] 32 (0, 0)) := heap_setCell_at (heap_setCell_at (heap_setCell_at hE))
 have hO3 : (((w3.setCell ⟨w.heap.size, 3, none⟩ (.int .u64 (RN : Int))).setCell ⟨w.heap.size, 4, none⟩ (.slice X0 n y0)).setCell ⟨w.heap.size, 5, none⟩ (.slice X1 n y1)).heap[w.heap.size + 1 + 1]? = some (.cells #[.int .i64 0, .int .i64 0, .slice none 0 0, .int .u64 0, .slice none 0 0, .slice none 0 0] 32 (0, 0)) := (setAll_other (g := w.heap.size) (by omega) [.int .u64 (RN : Int), .slice X0 n y0, .slice X1 n y1] 3 w3).trans hO
 have hP3 : (((w3.setCell ⟨w.heap.size, 3, none⟩ (.int .u64 (RN : Int))).setCell ⟨w.heap.size, 4, none⟩ (.slice X0 n y0)).setCell ⟨w.heap.size, 5, none⟩ (.slice X1 n y1)).heap[w.heap.size + 1 + 1 + 1]? = some (.cells #[.int .u64 0, .slice none 0 0, .bool false] 51 (0, 0)) := (setAll_other (g := w.heap.size) (by omega) [.int .u64 (RN : Int), .slice X0 n y0, .slice X1 n y1] 3 w3).trans hP
 have hW3 : Ext w (((w3.setCell ⟨w.heap.size, 3, none⟩ (.int .u64 (RN : Int))).setCell ⟨w.heap.size, 4, none⟩ (.slice X0 n y0)).setCell ⟨w.heap.size, 5, none⟩ (.slice X1 n y1)) := setAll_ext (g := w.heap.size) (vs := [.int .u64 (RN : Int), .slice X0 n y0, .slice X1 n y1]) (i := 3) hW (Nat.le_refl _)
 replace hdk := hdk.but (But.all w.heap.size [.int .u64 (RN : Int), .slice X0 n y0, .slice X1 n y1] 3 w3) hE rfl
 change DkK (((w3.setCell ⟨w.heap.size, 3, none⟩ (.int .u64 (RN : Int))).setCell ⟨w.heap.size, 4, none⟩ (.slice X0 n y0)).setCell ⟨w.heap.size, 5, none⟩ (.slice X1 n y1)) _ _ _ _ _ at hdk
 clear e0 e1 e2 e3 e4 e5 ef0 ef1 ef2 ef3 ef4 ef5 hE hG hO hP hW
 generalize (((w3.setCell ⟨w.heap.size, 3, none⟩ (.int .u64 (RN : Int))).setCell ⟨w.heap.size, 4, none⟩ (.slice X0 n y0)).setCell ⟨w.heap.size, 5, none⟩ (.slice X1 n y1)) = w4 at *
 have hE := hE3
 have hO := hO3
 have hP := hP3
 have hW := hW3
 clear hE3 hO3 hP3 hW3
 have hwv := hA.ext hW
 have hby := bytes_nil w4
 have hwl := hws2
 have e0 : w4.cell? ⟨w.heap.size, 0, none⟩ = some (.int .i64 T) := by simp [World.cell?, hE]
 have e1 : w4.cell? ⟨w.heap.size, 1, none⟩ = some (.int .i64 C) := by simp [World.cell?, hE]
 have e2 : w4.cell? ⟨w.heap.size, 2, none⟩ = some (.slice A q c) := by simp [World.cell?, hE]
 have e3 : w4.cell? ⟨w.heap.size, 3, none⟩ = some (.int .u64 (RN : Int)) := by simp [World.cell?, hE]
 have e4 : w4.cell? ⟨w.heap.size, 4, none⟩ = some (.slice X0 n y0) := by simp [World.cell?, hE]
 have e5 : w4.cell? ⟨w.heap.size, 5, none⟩ = some (.slice X1 n y1) := by simp [World.cell?, hE]
 have o0 : w4.cell? ⟨w.heap.size + 1 + 1, 0, none⟩ = some (.int .i64 0) := by simp [World.cell?, hO]
 have of0 : w4.frozen? ⟨w.heap.size + 1 + 1, 0, none⟩ = false := by simp [World.frozen?, hO]
 have o1 : w4.cell? ⟨w.heap.size + 1 + 1, 1, none⟩ = some (.int .i64 0) := by simp [World.cell?, hO]
 have of1 : w4.frozen? ⟨w.heap.size + 1 + 1, 1, none⟩ = false := by simp [World.frozen?, hO]
 have o2 : w4.cell? ⟨w.heap.size + 1 + 1, 2, none⟩ = some (.slice none 0 0) := by simp [World.cell?, hO]
 have of2 : w4.frozen? ⟨w.heap.size + 1 + 1, 2, none⟩ = false := by simp [World.frozen?, hO]
 have o3 : w4.cell? ⟨w.heap.size + 1 + 1, 3, none⟩ = some (.int .u64 0) := by simp [World.cell?, hO]
 have of3 : w4.frozen? ⟨w.heap.size + 1 + 1, 3, none⟩ = false := by simp [World.frozen?, hO]
 have o4 : w4.cell? ⟨w.heap.size + 1 + 1, 4, none⟩ = some (.slice none 0 0) := by simp [World.cell?, hO]
 have of4 : w4.frozen? ⟨w.heap.size + 1 + 1, 4, none⟩ = false := by simp [World.frozen?, hO]
 have o5 : w4.cell? ⟨w.heap.size + 1 + 1, 5, none⟩ = some (.slice none 0 0) := by simp [World.cell?, hO]
 have of5 : w4.frozen? ⟨w.heap.size + 1 + 1, 5, none⟩ = false := by simp [World.frozen?, hO]
 have p0 : w4.cell? ⟨w.heap.size + 1 + 1 + 1, 0, none⟩ = some (.int .u64 0) := by simp [World.cell?, hP]
 have pf0 : w4.frozen? ⟨w.heap.size + 1 + 1 + 1, 0, none⟩ = false := by simp [World.frozen?, hP]
 have p1 : w4.cell? ⟨w.heap.size + 1 + 1 + 1, 1, none⟩ = some (.slice none 0 0) := by simp [World.cell?, hP]
 have pf1 : w4.frozen? ⟨w.heap.size + 1 + 1 + 1, 1, none⟩ = false := by simp [World.frozen?, hP]
 have p2 : w4.cell? ⟨w.heap.size + 1 + 1 + 1, 2, none⟩ = some (.bool false) := by simp [World.cell?, hP]
 have pf2 : w4.frozen? ⟨w.heap.size + 1 + 1 + 1, 2, none⟩ = false := by simp [World.frozen?, hP]
 have hPm : (setAll (w.heap.size + 1 + 1) 0 [.int .i64 T, .int .i64 C, .slice A q c, .int .u64 (RN : Int), .slice X0 n y0, .slice X1 n y1] w4).heap[w.heap.size + 1 + 1 + 1]? = some (.cells #[.int .u64 0, .slice none 0 0, .bool false] 51 (0, 0)) := (setAll_other (g := w.heap.size + 1 + 1) (by omega) [.int .i64 T, .int .i64 C, .slice A q c, .int .u64 (RN : Int), .slice X0 n y0, .slice X1 n y1] 0 w4).trans hP
 obtain ⟨wf, hwf⟩ : ∃ wf, wf = setAll (w.heap.size + 1 + 1 + 1) 0 [.int .u64 0, .slice none 0 0, .bool false] (setAll (w.heap.size + 1 + 1) 0 [.int .i64 T, .int .i64 C, .slice A q c, .int .u64 (RN : Int), .slice X0 n y0, .slice X1 n y1] w4) := ⟨_, rfl⟩
 have hF : Ext w wf := hwf ▸ setAll_ext (g := w.heap.size + 1 + 1 + 1) (vs := [.int .u64 0, .slice none 0 0, .bool false]) (i := 0) (setAll_ext (g := w.heap.size + 1 + 1) (vs := [.int .i64 T, .int .i64 C, .slice A q c, .int .u64 (RN : Int), .slice X0 n y0, .slice X1 n y1]) (i := 0) hW (by omega)) (by omega)
 have hfO : wf.heap[w.heap.size + 1 + 1]? = some (.cells #[.int .i64 T, .int .i64 C, .slice A q c, .int .u64 (RN : Int), .slice X0 n y0, .slice X1 n y1] 32 (0, 0)) := hwf ▸ (setAll_other (g := w.heap.size + 1 + 1 + 1) (by omega) [.int .u64 0, .slice none 0 0, .bool false] 0 (setAll (w.heap.size + 1 + 1) 0 [.int .i64 T, .int .i64 C, .slice A q c, .int .u64 (RN : Int), .slice X0 n y0, .slice X1 n y1] w4)).trans (setAll_all (vs := [.int .i64 T, .int .i64 C, .slice A q c, .int .u64 (RN : Int), .slice X0 n y0, .slice X1 n y1]) hO rfl)
 have hfP : wf.heap[w.heap.size + 1 + 1 + 1]? = some (.cells #[.int .u64 0, .slice none 0 0, .bool false] 51 (0, 0)) := hwf ▸ setAll_all (vs := [.int .u64 0, .slice none 0 0, .bool false]) hPm rfl
 have hfd := (hdk.but (But.all (w.heap.size + 1 + 1) [.int .i64 T, .int .i64 C, .slice A q c, .int .u64 (RN : Int), .slice X0 n y0, .slice X1 n y1] 0 w4) hO rfl).but (But.all (w.heap.size + 1 + 1 + 1) [.int .u64 0, .slice none 0 0, .bool false] 0 _) hPm rfl
 have hfb := BytesV.but (BytesV.but hby (But.all (w.heap.size + 1 + 1) [.int .i64 T, .int .i64 C, .slice A q c, .int .u64 (RN : Int), .slice X0 n y0, .slice X1 n y1] 0 w4) hO rfl) (But.all (w.heap.size + 1 + 1 + 1) [.int .u64 0, .slice none 0 0, .bool false] 0 _) hPm rfl
 have hfw := WordsV.but (WordsV.but hwv hwl (But.all (w.heap.size + 1 + 1) [.int .i64 T, .int .i64 C, .slice A q c, .int .u64 (RN : Int), .slice X0 n y0, .slice X1 n y1] 0 w4) hO rfl) hwl (But.all (w.heap.size + 1 + 1 + 1) [.int .u64 0, .slice none 0 0, .bool false] 0 _) hPm rfl
 rw [← hwf] at hfd hfb hfw
 simp only [setAll] at hwf
 have HWF := Lib.hid hwf
 clear hwf hE hO hP hPm hdk hby hwv hW
 go_wp2_with fail
 rw [← HWF.out]
 clear HWF e0 e1 e2 e3 e4 e5 o0 o1 o2 o3 o4 o5 of0 of1 of2 of3 of4 of5 p0 p1 p2 pf0 pf1 pf2
 have o0 : wf.cell? ⟨w.heap.size + 1 + 1, 0, none⟩ = some (.int .i64 T) := by simp [World.cell?, hfO]
 have o1 : wf.cell? ⟨w.heap.size + 1 + 1, 1, none⟩ = some (.int .i64 C) := by simp [World.cell?, hfO]
 have o2 : wf.cell? ⟨w.heap.size + 1 + 1, 2, none⟩ = some (.slice A q c) := by simp [World.cell?, hfO]
 have o3 : wf.cell? ⟨w.heap.size + 1 + 1, 3, none⟩ = some (.int .u64 (RN : Int)) := by simp [World.cell?, hfO]
 have o4 : wf.cell? ⟨w.heap.size + 1 + 1, 4, none⟩ = some (.slice X0 n y0) := by simp [World.cell?, hfO]
 have o5 : wf.cell? ⟨w.heap.size + 1 + 1, 5, none⟩ = some (.slice X1 n y1) := by simp [World.cell?, hfO]
 have p0 : wf.cell? ⟨w.heap.size + 1 + 1 + 1, 0, none⟩ = some (.int .u64 0) := by simp [World.cell?, hfP]
 have p1 : wf.cell? ⟨w.heap.size + 1 + 1 + 1, 1, none⟩ = some (.slice none 0 0) := by simp [World.cell?, hfP]
 have p2 : wf.cell? ⟨w.heap.size + 1 + 1 + 1, 2, none⟩ = some (.bool false) := by simp [World.cell?, hfP]
 refine bodyPost_ret (v := .tuple #[.agg #[.int .i64 T, .int .i64 C, .slice A q c, .int .u64 (RN : Int), .slice X0 n y0, .slice X1 n y1], .agg #[.int .u64 0, .slice none 0 0, .bool false]]) (by simp [results, Try.results19, go_sem, o0, o1, o2, o3, o4, o5, p0, p1, p2]) rfl ⟨_, _, rfl, ⟨_, _, _, _, _, _, _, rfl, hfw, hfd⟩, ⟨_, _, _, rfl, hfb⟩, hF⟩
set_option maxRecDepth 100000 in
set_option maxHeartbeats 2000000 in
theorem rdo_8 (T C : Int) (A : Option Addr) (q c : Nat) (ws : List Int) (RN n : Nat) (A0 A1 : Option Addr) (c0 c1 : Nat) (K0 K1 : List Key) (me ce a b : Int) (D : Option Addr) (m cd : Nat) (B : Option Addr) (q2 cb : Nat) (dat : List UInt8) (wd : List Int) (w : World) (hA : WordsV w A q c ws) (hd : DkK w (.agg #[.int .u64 (RN : Int), .slice A0 n c0, .slice A1 n c1]) (RN : Int) n K0 K1)
  (hB : BytesV w D m cd dat) (hwd : WordsV w B q2 cb wd) (ha : 0 ≤ a ∧ a < 18446744073709551616) (hb : 0 ≤ b ∧ b < 18446744073709551616) {mF : Nat} (hF : Fit ⟨T, C, ws, RN, n, K0, K1⟩ mF)  :
  Calls Try.prog 19 #[.agg #[.int .i64 T, .int .i64 C, .slice A q c, .int .u64 (RN : Int), .slice A0 n c0, .slice A1 n c1], .int .i64 me, .agg #[.int .i64 8, .int .i64 ce, .int .u64 a, .int .u64 b, .slice D m cd, .slice B q2 cb], .bool false] w (DoPost (⟨T, C, ws, RN, n, K0, K1⟩ : WldK) ⟨0, readK ((RN : Int) % 2) ce K0 K1, false⟩ w) := by
 have hlen := hA.len
 have hlen2 := hwd.len
 have hpos : 0 < n := hF.pos
 have hn : n ≤ 64 := hF.le
 have hn6 : n ≤ 65536 := by omega
 have hR : RN < 18446744073709551616 := by have := hF.root.2; simp only at this; omega
 have hws2 : 2 ≤ ws.length := hF.ws.1
 have hws6 : ws.length ≤ 65536 := hF.ws.2
 have hm0 : ∀ x ∈ K0, x.1.length + mF ≤ 65536 := hF.k0
 have hm1 : ∀ x ∈ K1, x.1.length + mF ≤ 65536 := hF.k1
 have hs0 : ∀ x ∈ K0, x.1.length ≤ 65536 := fun x hx => by have := hm0 x hx; omega
 have hs1 : ∀ x ∈ K1, x.1.length ≤ 65536 := fun x hx => by have := hm1 x hx; omega
 clear hF
 obtain ⟨rr, hrr, hr2⟩ : ∃ rr, RN % 2 = rr ∧ rr < 2 := ⟨_, rfl, Nat.mod_lt _ (by omega)⟩
 have hri : (RN : Int) % 2 = (rr : Int) := by omega
 have hsub : IntKind.i64.wrap (1 - (rr : Int)) = 1 - (rr : Int) := by rw [IntKind.wrap_i64]; omega
 have hm : Int.tmod (RN : Int) 2 = (rr : Int) := by rw [Int.tmod_eq_emod_of_nonneg (by omega)]; omega
 have hw1 : IntKind.u64.wrap (rr : Int) = (rr : Int) := by rw [IntKind.wrap_u64]; omega
 have hw2 : IntKind.i64.wrap (rr : Int) = (rr : Int) := by rw [IntKind.wrap_i64]; omega
 try rw [hri]
 clear hrr hri
 go_enter Try.func19, Try.ntmps19
 go_upto_region 1 with (fail)
 obtain ⟨hW, hE, hG, hO, hP⟩ := boxes4 w (.cells #[.int .i64 T, .int .i64 C, .slice A q c, .int .u64 (RN : Int), .slice A0 n c0, .slice A1 n c1] 32) (.cells #[.int .i64 8, .int .i64 ce, .int .u64 a, .int .u64 b, .slice D m cd, .slice B q2 cb] 42) (.cells #[.int .i64 0, .int .i64 0, .slice none 0 0, .int .u64 0, .slice none 0 0, .slice none 0 0] 32) (.cells #[.int .u64 0, .slice none 0 0, .bool false] 51)
 generalize (((w.alloc (.cells #[.int .i64 T, .int .i64 C, .slice A q c, .int .u64 (RN : Int), .slice A0 n c0, .slice A1 n c1] 32)).alloc (.cells #[.int .i64 8, .int .i64 ce, .int .u64 a, .int .u64 b, .slice D m cd, .slice B q2 cb] 42)).alloc (.cells #[.int .i64 0, .int .i64 0, .slice none 0 0, .int .u64 0, .slice none 0 0, .slice none 0 0] 32)).alloc (.cells #[.int .u64 0, .slice none 0 0, .bool false] 51) = W at *
 have hlt : w.heap.size + 1 + 1 + 1 < W.heap.size := (Array.getElem?_eq_some_iff.1 hP).1
 have e0 : W.cell? ⟨w.heap.size, 0, none⟩ = some (.int .i64 T) := by simp [World.cell?, hE]
 have e1 : W.cell? ⟨w.heap.size, 1, none⟩ = some (.int .i64 C) := by simp [World.cell?, hE]
 have e2 : W.cell? ⟨w.heap.size, 2, none⟩ = some (.slice A q c) := by simp [World.cell?, hE]
 have e3 : W.cell? ⟨w.heap.size, 3, none⟩ = some (.int .u64 (RN : Int)) := by simp [World.cell?, hE]
 have e4 : W.cell? ⟨w.heap.size, 4, none⟩ = some (.slice A0 n c0) := by simp [World.cell?, hE]
 have e5 : W.cell? ⟨w.heap.size, 5, none⟩ = some (.slice A1 n c1) := by simp [World.cell?, hE]
 have g0 : W.cell? ⟨w.heap.size + 1, 0, none⟩ = some (.int .i64 8) := by simp [World.cell?, hG]
 have g1 : W.cell? ⟨w.heap.size + 1, 1, none⟩ = some (.int .i64 ce) := by simp [World.cell?, hG]
 have g2 : W.cell? ⟨w.heap.size + 1, 2, none⟩ = some (.int .u64 a) := by simp [World.cell?, hG]
 have g3 : W.cell? ⟨w.heap.size + 1, 3, none⟩ = some (.int .u64 b) := by simp [World.cell?, hG]
 have g4 : W.cell? ⟨w.heap.size + 1, 4, none⟩ = some (.slice D m cd) := by simp [World.cell?, hG]
 have g5 : W.cell? ⟨w.heap.size + 1, 5, none⟩ = some (.slice B q2 cb) := by simp [World.cell?, hG]
 go_upto_region 2 with (fail)
 clear hm hw1 hw2
 go_wp2_with fail
 refine (rread_K (rr : Int) ce (hd.ext hW) hn6 hs0 hs1).mono ?_
 rintro e w3 ⟨E, qb, eb, rfl, hby, hx⟩
 replace hE := heap_ext hE hx
 replace hG := heap_ext hG hx
 replace hO := heap_ext hO hx
 replace hP := heap_ext hP hx
 replace hW := hW.trans hx
 clear e0 e1 e2 e3 e4 e5 g0 g1 g2 g3 g4 g5
 clear hx
 go_upto_region 15 with (fail)
 have hdk := hd.ext hW
 have hwv := hA.ext hW
 have hwl := hws2
 have e0 : w3.cell? ⟨w.heap.size, 0, none⟩ = some (.int .i64 T) := by simp [World.cell?, hE]
 have e1 : w3.cell? ⟨w.heap.size, 1, none⟩ = some (.int .i64 C) := by simp [World.cell?, hE]
 have e2 : w3.cell? ⟨w.heap.size, 2, none⟩ = some (.slice A q c) := by simp [World.cell?, hE]
 have e3 : w3.cell? ⟨w.heap.size, 3, none⟩ = some (.int .u64 (RN : Int)) := by simp [World.cell?, hE]
 have e4 : w3.cell? ⟨w.heap.size, 4, none⟩ = some (.slice A0 n c0) := by simp [World.cell?, hE]
 have e5 : w3.cell? ⟨w.heap.size, 5, none⟩ = some (.slice A1 n c1) := by simp [World.cell?, hE]
 have o0 : w3.cell? ⟨w.heap.size + 1 + 1, 0, none⟩ = some (.int .i64 0) := by simp [World.cell?, hO]
 have of0 : w3.frozen? ⟨w.heap.size + 1 + 1, 0, none⟩ = false := by simp [World.frozen?, hO]
 have o1 : w3.cell? ⟨w.heap.size + 1 + 1, 1, none⟩ = some (.int .i64 0) := by simp [World.cell?, hO]
 have of1 : w3.frozen? ⟨w.heap.size + 1 + 1, 1, none⟩ = false := by simp [World.frozen?, hO]
 have o2 : w3.cell? ⟨w.heap.size + 1 + 1, 2, none⟩ = some (.slice none 0 0) := by simp [World.cell?, hO]
 have of2 : w3.frozen? ⟨w.heap.size + 1 + 1, 2, none⟩ = false := by simp [World.frozen?, hO]
 have o3 : w3.cell? ⟨w.heap.size + 1 + 1, 3, none⟩ = some (.int .u64 0) := by simp [World.cell?, hO]
 have of3 : w3.frozen? ⟨w.heap.size + 1 + 1, 3, none⟩ = false := by simp [World.frozen?, hO]
 have o4 : w3.cell? ⟨w.heap.size + 1 + 1, 4, none⟩ = some (.slice none 0 0) := by simp [World.cell?, hO]
 have of4 : w3.frozen? ⟨w.heap.size + 1 + 1, 4, none⟩ = false := by simp [World.frozen?, hO]
 have o5 : w3.cell? ⟨w.heap.size + 1 + 1, 5, none⟩ = some (.slice none 0 0) := by simp [World.cell?, hO]
 have of5 : w3.frozen? ⟨w.heap.size + 1 + 1, 5, none⟩ = false := by simp [World.frozen?, hO]
 have p0 : w3.cell? ⟨w.heap.size + 1 + 1 + 1, 0, none⟩ = some (.int .u64 0) := by simp [World.cell?, hP]
 have pf0 : w3.frozen? ⟨w.heap.size + 1 + 1 + 1, 0, none⟩ = false := by simp [World.frozen?, hP]
 have p1 : w3.cell? ⟨w.heap.size + 1 + 1 + 1, 1, none⟩ = some (.slice none 0 0) := by simp [World.cell?, hP]
 have pf1 : w3.frozen? ⟨w.heap.size + 1 + 1 + 1, 1, none⟩ = false := by simp [World.frozen?, hP]
 have p2 : w3.cell? ⟨w.heap.size + 1 + 1 + 1, 2, none⟩ = some (.bool false) := by simp [World.cell?, hP]
 have pf2 : w3.frozen? ⟨w.heap.size + 1 + 1 + 1, 2, none⟩ = false := by simp [World.frozen?, hP]
 have hPm : (setAll (w.heap.size + 1 + 1) 0 [.int .i64 T, .int .i64 C, .slice A q c, .int .u64 (RN : Int), .slice A0 n c0, .slice A1 n c1] w3).heap[w.heap.size + 1 + 1 + 1]? = some (.cells #[.int .u64 0, .slice none 0 0, .bool false] 51 (0, 0)) := (setAll_other (g := w.heap.size + 1 + 1) (by omega) [.int .i64 T, .int .i64 C, .slice A q c, .int .u64 (RN : Int), .slice A0 n c0, .slice A1 n c1] 0 w3).trans hP
 obtain ⟨wf, hwf⟩ : ∃ wf, wf = setAll (w.heap.size + 1 + 1 + 1) 0 [.int .u64 0, .slice E qb eb, .bool false] (setAll (w.heap.size + 1 + 1) 0 [.int .i64 T, .int .i64 C, .slice A q c, .int .u64 (RN : Int), .slice A0 n c0, .slice A1 n c1] w3) := ⟨_, rfl⟩
 have hF : Ext w wf := hwf ▸ setAll_ext (g := w.heap.size + 1 + 1 + 1) (vs := [.int .u64 0, .slice E qb eb, .bool false]) (i := 0) (setAll_ext (g := w.heap.size + 1 + 1) (vs := [.int .i64 T, .int .i64 C, .slice A q c, .int .u64 (RN : Int), .slice A0 n c0, .slice A1 n c1]) (i := 0) hW (by omega)) (by omega)
 have hfO : wf.heap[w.heap.size + 1 + 1]? = some (.cells #[.int .i64 T, .int .i64 C, .slice A q c, .int .u64 (RN : Int), .slice A0 n c0, .slice A1 n c1] 32 (0, 0)) := hwf ▸ (setAll_other (g := w.heap.size + 1 + 1 + 1) (by omega) [.int .u64 0, .slice E qb eb, .bool false] 0 (setAll (w.heap.size + 1 + 1) 0 [.int .i64 T, .int .i64 C, .slice A q c, .int .u64 (RN : Int), .slice A0 n c0, .slice A1 n c1] w3)).trans (setAll_all (vs := [.int .i64 T, .int .i64 C, .slice A q c, .int .u64 (RN : Int), .slice A0 n c0, .slice A1 n c1]) hO rfl)
 have hfP : wf.heap[w.heap.size + 1 + 1 + 1]? = some (.cells #[.int .u64 0, .slice E qb eb, .bool false] 51 (0, 0)) := hwf ▸ setAll_all (vs := [.int .u64 0, .slice E qb eb, .bool false]) hPm rfl
 have hfd := (hdk.but (But.all (w.heap.size + 1 + 1) [.int .i64 T, .int .i64 C, .slice A q c, .int .u64 (RN : Int), .slice A0 n c0, .slice A1 n c1] 0 w3) hO rfl).but (But.all (w.heap.size + 1 + 1 + 1) [.int .u64 0, .slice E qb eb, .bool false] 0 _) hPm rfl
 have hfb := BytesV.but (BytesV.but hby (But.all (w.heap.size + 1 + 1) [.int .i64 T, .int .i64 C, .slice A q c, .int .u64 (RN : Int), .slice A0 n c0, .slice A1 n c1] 0 w3) hO rfl) (But.all (w.heap.size + 1 + 1 + 1) [.int .u64 0, .slice E qb eb, .bool false] 0 _) hPm rfl
 have hfw := WordsV.but (WordsV.but hwv hwl (But.all (w.heap.size + 1 + 1) [.int .i64 T, .int .i64 C, .slice A q c, .int .u64 (RN : Int), .slice A0 n c0, .slice A1 n c1] 0 w3) hO rfl) hwl (But.all (w.heap.size + 1 + 1 + 1) [.int .u64 0, .slice E qb eb, .bool false] 0 _) hPm rfl
 rw [← hwf] at hfd hfb hfw
 simp only [setAll] at hwf
 have HWF := Lib.hid hwf
 clear hwf hE hO hP hPm hdk hby hwv hW
 go_wp2_with fail
 rw [← HWF.out]
 clear HWF e0 e1 e2 e3 e4 e5 o0 o1 o2 o3 o4 o5 of0 of1 of2 of3 of4 of5 p0 p1 p2 pf0 pf1 pf2
 have o0 : wf.cell? ⟨w.heap.size + 1 + 1, 0, none⟩ = some (.int .i64 T) := by simp [World.cell?, hfO]
 have o1 : wf.cell? ⟨w.heap.size + 1 + 1, 1, none⟩ = some (.int .i64 C) := by simp [World.cell?, hfO]
 have o2 : wf.cell? ⟨w.heap.size + 1 + 1, 2, none⟩ = some (.slice A q c) := by simp [World.cell?, hfO]
 have o3 : wf.cell? ⟨w.heap.size + 1 + 1, 3, none⟩ = some (.int .u64 (RN : Int)) := by simp [World.cell?, hfO]
 have o4 : wf.cell? ⟨w.heap.size + 1 + 1, 4, none⟩ = some (.slice A0 n c0) := by simp [World.cell?, hfO]
 have o5 : wf.cell? ⟨w.heap.size + 1 + 1, 5, none⟩ = some (.slice A1 n c1) := by simp [World.cell?, hfO]
 have p0 : wf.cell? ⟨w.heap.size + 1 + 1 + 1, 0, none⟩ = some (.int .u64 0) := by simp [World.cell?, hfP]
 have p1 : wf.cell? ⟨w.heap.size + 1 + 1 + 1, 1, none⟩ = some (.slice E qb eb) := by simp [World.cell?, hfP]
 have p2 : wf.cell? ⟨w.heap.size + 1 + 1 + 1, 2, none⟩ = some (.bool false) := by simp [World.cell?, hfP]
 refine bodyPost_ret (v := .tuple #[.agg #[.int .i64 T, .int .i64 C, .slice A q c, .int .u64 (RN : Int), .slice A0 n c0, .slice A1 n c1], .agg #[.int .u64 0, .slice E qb eb, .bool false]]) (by simp [results, Try.results19, go_sem, o0, o1, o2, o3, o4, o5, p0, p1, p2]) rfl ⟨_, _, rfl, ⟨_, _, _, _, _, _, _, rfl, hfw, hfd⟩, ⟨_, _, _, rfl, hfb⟩, hF⟩
set_option maxRecDepth 100000 in
set_option maxHeartbeats 2000000 in
theorem rdo_12 (T C : Int) (A : Option Addr) (q c : Nat) (ws : List Int) (RN n : Nat) (A0 A1 : Option Addr) (c0 c1 : Nat) (K0 K1 : List Key) (me ce a b : Int) (D : Option Addr) (m cd : Nat) (B : Option Addr) (q2 cb : Nat) (dat : List UInt8) (wd : List Int) (w : World) (hA : WordsV w A q c ws) (hd : DkK w (.agg #[.int .u64 (RN : Int), .slice A0 n c0, .slice A1 n c1]) (RN : Int) n K0 K1)
  (hB : BytesV w D m cd dat) (hwd : WordsV w B q2 cb wd) (ha : 0 ≤ a ∧ a < 18446744073709551616) (hb : 0 ≤ b ∧ b < 18446744073709551616) {mF : Nat} (hF : Fit ⟨T, C, ws, RN, n, K0, K1⟩ mF)  :
  Calls Try.prog 19 #[.agg #[.int .i64 T, .int .i64 C, .slice A q c, .int .u64 (RN : Int), .slice A0 n c0, .slice A1 n c1], .int .i64 me, .agg #[.int .i64 12, .int .i64 ce, .int .u64 a, .int .u64 b, .slice D m cd, .slice B q2 cb], .bool false] w (DoPost (⟨T, C, ws, ((RN : Int) + 1) % 18446744073709551616, n, K0, K1⟩ : WldK) ResK.zero w) := by
 have hlen := hA.len
 have hlen2 := hwd.len
 have hpos : 0 < n := hF.pos
 have hn : n ≤ 64 := hF.le
 have hn6 : n ≤ 65536 := by omega
 have hR : RN < 18446744073709551616 := by have := hF.root.2; simp only at this; omega
 have hws2 : 2 ≤ ws.length := hF.ws.1
 have hws6 : ws.length ≤ 65536 := hF.ws.2
 have hm0 : ∀ x ∈ K0, x.1.length + mF ≤ 65536 := hF.k0
 have hm1 : ∀ x ∈ K1, x.1.length + mF ≤ 65536 := hF.k1
 have hs0 : ∀ x ∈ K0, x.1.length ≤ 65536 := fun x hx => by have := hm0 x hx; omega
 have hs1 : ∀ x ∈ K1, x.1.length ≤ 65536 := fun x hx => by have := hm1 x hx; omega
 clear hF
 obtain ⟨rr, hrr, hr2⟩ : ∃ rr, RN % 2 = rr ∧ rr < 2 := ⟨_, rfl, Nat.mod_lt _ (by omega)⟩
 have hri : (RN : Int) % 2 = (rr : Int) := by omega
 have hsub : IntKind.i64.wrap (1 - (rr : Int)) = 1 - (rr : Int) := by rw [IntKind.wrap_i64]; omega
 have hm : Int.tmod (RN : Int) 2 = (rr : Int) := by rw [Int.tmod_eq_emod_of_nonneg (by omega)]; omega
 have hw1 : IntKind.u64.wrap (rr : Int) = (rr : Int) := by rw [IntKind.wrap_u64]; omega
 have hw2 : IntKind.i64.wrap (rr : Int) = (rr : Int) := by rw [IntKind.wrap_i64]; omega
 try rw [hri]
 clear hrr hri
 go_enter Try.func19, Try.ntmps19
 go_upto_region 1 with (fail)
 obtain ⟨hW, hE, hG, hO, hP⟩ := boxes4 w (.cells #[.int .i64 T, .int .i64 C, .slice A q c, .int .u64 (RN : Int), .slice A0 n c0, .slice A1 n c1] 32) (.cells #[.int .i64 12, .int .i64 ce, .int .u64 a, .int .u64 b, .slice D m cd, .slice B q2 cb] 42) (.cells #[.int .i64 0, .int .i64 0, .slice none 0 0, .int .u64 0, .slice none 0 0, .slice none 0 0] 32) (.cells #[.int .u64 0, .slice none 0 0, .bool false] 51)
 generalize (((w.alloc (.cells #[.int .i64 T, .int .i64 C, .slice A q c, .int .u64 (RN : Int), .slice A0 n c0, .slice A1 n c1] 32)).alloc (.cells #[.int .i64 12, .int .i64 ce, .int .u64 a, .int .u64 b, .slice D m cd, .slice B q2 cb] 42)).alloc (.cells #[.int .i64 0, .int .i64 0, .slice none 0 0, .int .u64 0, .slice none 0 0, .slice none 0 0] 32)).alloc (.cells #[.int .u64 0, .slice none 0 0, .bool false] 51) = W at *
 have hlt : w.heap.size + 1 + 1 + 1 < W.heap.size := (Array.getElem?_eq_some_iff.1 hP).1
 have e0 : W.cell? ⟨w.heap.size, 0, none⟩ = some (.int .i64 T) := by simp [World.cell?, hE]
 have e1 : W.cell? ⟨w.heap.size, 1, none⟩ = some (.int .i64 C) := by simp [World.cell?, hE]
 have e2 : W.cell? ⟨w.heap.size, 2, none⟩ = some (.slice A q c) := by simp [World.cell?, hE]
 have e3 : W.cell? ⟨w.heap.size, 3, none⟩ = some (.int .u64 (RN : Int)) := by simp [World.cell?, hE]
 have e4 : W.cell? ⟨w.heap.size, 4, none⟩ = some (.slice A0 n c0) := by simp [World.cell?, hE]
 have e5 : W.cell? ⟨w.heap.size, 5, none⟩ = some (.slice A1 n c1) := by simp [World.cell?, hE]
 have g0 : W.cell? ⟨w.heap.size + 1, 0, none⟩ = some (.int .i64 12) := by simp [World.cell?, hG]
 have g1 : W.cell? ⟨w.heap.size + 1, 1, none⟩ = some (.int .i64 ce) := by simp [World.cell?, hG]
 have g2 : W.cell? ⟨w.heap.size + 1, 2, none⟩ = some (.int .u64 a) := by simp [World.cell?, hG]
 have g3 : W.cell? ⟨w.heap.size + 1, 3, none⟩ = some (.int .u64 b) := by simp [World.cell?, hG]
 have g4 : W.cell? ⟨w.heap.size + 1, 4, none⟩ = some (.slice D m cd) := by simp [World.cell?, hG]
 have g5 : W.cell? ⟨w.heap.size + 1, 5, none⟩ = some (.slice B q2 cb) := by simp [World.cell?, hG]
 go_upto_region 2 with (fail)
 clear hm hw1 hw2
 have hwr : IntKind.u64.wrap ((RN : Int) + 1) = ((RN : Int) + 1) % 18446744073709551616 := IntKind.wrap_u64 _
 generalize hZZ : ((RN : Int) + 1) % 18446744073709551616 = RZ at *
 have h0 : W.cell? ⟨w.heap.size, 0, none⟩ = some (.int .i64 T) := by simp [World.cell?, hE]
 have hf0 : W.frozen? ⟨w.heap.size, 0, none⟩ = false := by simp [World.frozen?, hE]
 have h1 : W.cell? ⟨w.heap.size, 1, none⟩ = some (.int .i64 C) := by simp [World.cell?, hE]
 have hf1 : W.frozen? ⟨w.heap.size, 1, none⟩ = false := by simp [World.frozen?, hE]
 have h2 : W.cell? ⟨w.heap.size, 2, none⟩ = some (.slice A q c) := by simp [World.cell?, hE]
 have hf2 : W.frozen? ⟨w.heap.size, 2, none⟩ = false := by simp [World.frozen?, hE]
 have h3 : W.cell? ⟨w.heap.size, 3, none⟩ = some (.int .u64 (RN : Int)) := by simp [World.cell?, hE]
 have hf3 : W.frozen? ⟨w.heap.size, 3, none⟩ = false := by simp [World.frozen?, hE]
 have h4 : W.cell? ⟨w.heap.size, 4, none⟩ = some (.slice A0 n c0) := by simp [World.cell?, hE]
 have hf4 : W.frozen? ⟨w.heap.size, 4, none⟩ = false := by simp [World.frozen?, hE]
 have h5 : W.cell? ⟨w.heap.size, 5, none⟩ = some (.slice A1 n c1) := by simp [World.cell?, hE]
 have hf5 : W.frozen? ⟨w.heap.size, 5, none⟩ = false := by simp [World.frozen?, hE]
 clear h0 h1 h2 h3 h4 h5
 go_upto_region 27 with (fail)
 have hE3 : (W.setCell ⟨w.heap.size, 3, none⟩ (.int .u64 RZ)).heap[w.heap.size]? = some (.cells #[.int .i64 T, .int .i64 C, .slice A q c, .int .u64 RZ, .slice A0 n c0, .slice A1 n c1] 32 (0, 0)) := heap_setCell_at hE
 have hO3 : (W.setCell ⟨w.heap.size, 3, none⟩ (.int .u64 RZ)).heap[w.heap.size + 1 + 1]? = some (.cells #[.int .i64 0, .int .i64 0, .slice none 0 0, .int .u64 0, .slice none 0 0, .slice none 0 0] 32 (0, 0)) := (Below.heap_setCell _ _ _ _ (by simp <;> omega)).trans hO
 have hP3 : (W.setCell ⟨w.heap.size, 3, none⟩ (.int .u64 RZ)).heap[w.heap.size + 1 + 1 + 1]? = some (.cells #[.int .u64 0, .slice none 0 0, .bool false] 51 (0, 0)) := (Below.heap_setCell _ _ _ _ (by simp <;> omega)).trans hP
 have hW3 : Ext w (W.setCell ⟨w.heap.size, 3, none⟩ (.int .u64 RZ)) := hW.setCell (Nat.le_refl _) _
 clear e0 e1 e2 e3 e4 e5 g0 g1 g2 g3 g4 g5
 clear hf0 hf1 hf2 hf3 hf4 hf5 hE hG hO hP hW
 generalize (W.setCell ⟨w.heap.size, 3, none⟩ (.int .u64 RZ)) = w4 at *
 have hE := hE3
 have hO := hO3
 have hP := hP3
 have hW := hW3
 clear hE3 hO3 hP3 hW3
 have hwv := hA.ext hW
 have hby := bytes_nil w4
 have hwl := hws2
 have hdk : DkK w4 (.agg #[.int .u64 RZ, .slice A0 n c0, .slice A1 n c1]) RZ n K0 K1 := by
  obtain ⟨l0, l1, ⟨B0, B1, b0, b1, eq, h0, h1⟩, k0, k1⟩ := hd.ext hW
  have eq1 := (Value.agg.inj eq)
  simp only [Array.mk.injEq, List.cons.injEq, Value.slice.injEq, and_true, true_and] at eq1
  obtain ⟨⟨rfl, rfl⟩, rfl, rfl⟩ := eq1
  exact ⟨l0, l1, ⟨_, _, _, _, rfl, h0, h1⟩, k0, k1⟩
 have e0 : w4.cell? ⟨w.heap.size, 0, none⟩ = some (.int .i64 T) := by simp [World.cell?, hE]
 have e1 : w4.cell? ⟨w.heap.size, 1, none⟩ = some (.int .i64 C) := by simp [World.cell?, hE]
 have e2 : w4.cell? ⟨w.heap.size, 2, none⟩ = some (.slice A q c) := by simp [World.cell?, hE]
 have e3 : w4.cell? ⟨w.heap.size, 3, none⟩ = some (.int .u64 RZ) := by simp [World.cell?, hE]
 have e4 : w4.cell? ⟨w.heap.size, 4, none⟩ = some (.slice A0 n c0) := by simp [World.cell?, hE]
 have e5 : w4.cell? ⟨w.heap.size, 5, none⟩ = some (.slice A1 n c1) := by simp [World.cell?, hE]
 have o0 : w4.cell? ⟨w.heap.size + 1 + 1, 0, none⟩ = some (.int .i64 0) := by simp [World.cell?, hO]
 have of0 : w4.frozen? ⟨w.heap.size + 1 + 1, 0, none⟩ = false := by simp [World.frozen?, hO]
 have o1 : w4.cell? ⟨w.heap.size + 1 + 1, 1, none⟩ = some (.int .i64 0) := by simp [World.cell?, hO]
 have of1 : w4.frozen? ⟨w.heap.size + 1 + 1, 1, none⟩ = false := by simp [World.frozen?, hO]
 have o2 : w4.cell? ⟨w.heap.size + 1 + 1, 2, none⟩ = some (.slice none 0 0) := by simp [World.cell?, hO]
 have of2 : w4.frozen? ⟨w.heap.size + 1 + 1, 2, none⟩ = false := by simp [World.frozen?, hO]
 have o3 : w4.cell? ⟨w.heap.size + 1 + 1, 3, none⟩ = some (.int .u64 0) := by simp [World.cell?, hO]
 have of3 : w4.frozen? ⟨w.heap.size + 1 + 1, 3, none⟩ = false := by simp [World.frozen?, hO]
 have o4 : w4.cell? ⟨w.heap.size + 1 + 1, 4, none⟩ = some (.slice none 0 0) := by simp [World.cell?, hO]
 have of4 : w4.frozen? ⟨w.heap.size + 1 + 1, 4, none⟩ = false := by simp [World.frozen?, hO]
 have o5 : w4.cell? ⟨w.heap.size + 1 + 1, 5, none⟩ = some (.slice none 0 0) := by simp [World.cell?, hO]
 have of5 : w4.frozen? ⟨w.heap.size + 1 + 1, 5, none⟩ = false := by simp [World.frozen?, hO]
 have p0 : w4.cell? ⟨w.heap.size + 1 + 1 + 1, 0, none⟩ = some (.int .u64 0) := by simp [World.cell?, hP]
 have pf0 : w4.frozen? ⟨w.heap.size + 1 + 1 + 1, 0, none⟩ = false := by simp [World.frozen?, hP]
 have p1 : w4.cell? ⟨w.heap.size + 1 + 1 + 1, 1, none⟩ = some (.slice none 0 0) := by simp [World.cell?, hP]
 have pf1 : w4.frozen? ⟨w.heap.size + 1 + 1 + 1, 1, none⟩ = false := by simp [World.frozen?, hP]
 have p2 : w4.cell? ⟨w.heap.size + 1 + 1 + 1, 2, none⟩ = some (.bool false) := by simp [World.cell?, hP]
 have pf2 : w4.frozen? ⟨w.heap.size + 1 + 1 + 1, 2, none⟩ = false := by simp [World.frozen?, hP]
 have hPm : (setAll (w.heap.size + 1 + 1) 0 [.int .i64 T, .int .i64 C, .slice A q c, .int .u64 RZ, .slice A0 n c0, .slice A1 n c1] w4).heap[w.heap.size + 1 + 1 + 1]? = some (.cells #[.int .u64 0, .slice none 0 0, .bool false] 51 (0, 0)) := (setAll_other (g := w.heap.size + 1 + 1) (by omega) [.int .i64 T, .int .i64 C, .slice A q c, .int .u64 RZ, .slice A0 n c0, .slice A1 n c1] 0 w4).trans hP
 obtain ⟨wf, hwf⟩ : ∃ wf, wf = setAll (w.heap.size + 1 + 1 + 1) 0 [.int .u64 0, .slice none 0 0, .bool false] (setAll (w.heap.size + 1 + 1) 0 [.int .i64 T, .int .i64 C, .slice A q c, .int .u64 RZ, .slice A0 n c0, .slice A1 n c1] w4) := ⟨_, rfl⟩
 have hF : Ext w wf := hwf ▸ setAll_ext (g := w.heap.size + 1 + 1 + 1) (vs := [.int .u64 0, .slice none 0 0, .bool false]) (i := 0) (setAll_ext (g := w.heap.size + 1 + 1) (vs := [.int .i64 T, .int .i64 C, .slice A q c, .int .u64 RZ, .slice A0 n c0, .slice A1 n c1]) (i := 0) hW (by omega)) (by omega)
 have hfO : wf.heap[w.heap.size + 1 + 1]? = some (.cells #[.int .i64 T, .int .i64 C, .slice A q c, .int .u64 RZ, .slice A0 n c0, .slice A1 n c1] 32 (0, 0)) := hwf ▸ (setAll_other (g := w.heap.size + 1 + 1 + 1) (by omega) [.int .u64 0, .slice none 0 0, .bool false] 0 (setAll (w.heap.size + 1 + 1) 0 [.int .i64 T, .int .i64 C, .slice A q c, .int .u64 RZ, .slice A0 n c0, .slice A1 n c1] w4)).trans (setAll_all (vs := [.int .i64 T, .int .i64 C, .slice A q c, .int .u64 RZ, .slice A0 n c0, .slice A1 n c1]) hO rfl)
 have hfP : wf.heap[w.heap.size + 1 + 1 + 1]? = some (.cells #[.int .u64 0, .slice none 0 0, .bool false] 51 (0, 0)) := hwf ▸ setAll_all (vs := [.int .u64 0, .slice none 0 0, .bool false]) hPm rfl
 have hfd := (hdk.but (But.all (w.heap.size + 1 + 1) [.int .i64 T, .int .i64 C, .slice A q c, .int .u64 RZ, .slice A0 n c0, .slice A1 n c1] 0 w4) hO rfl).but (But.all (w.heap.size + 1 + 1 + 1) [.int .u64 0, .slice none 0 0, .bool false] 0 _) hPm rfl
 have hfb := BytesV.but (BytesV.but hby (But.all (w.heap.size + 1 + 1) [.int .i64 T, .int .i64 C, .slice A q c, .int .u64 RZ, .slice A0 n c0, .slice A1 n c1] 0 w4) hO rfl) (But.all (w.heap.size + 1 + 1 + 1) [.int .u64 0, .slice none 0 0, .bool false] 0 _) hPm rfl
 have hfw := WordsV.but (WordsV.but hwv hwl (But.all (w.heap.size + 1 + 1) [.int .i64 T, .int .i64 C, .slice A q c, .int .u64 RZ, .slice A0 n c0, .slice A1 n c1] 0 w4) hO rfl) hwl (But.all (w.heap.size + 1 + 1 + 1) [.int .u64 0, .slice none 0 0, .bool false] 0 _) hPm rfl
 rw [← hwf] at hfd hfb hfw
 simp only [setAll] at hwf
 have HWF := Lib.hid hwf
 clear hwf hE hO hP hPm hdk hby hwv hW
 go_wp2_with fail
 rw [← HWF.out]
 clear HWF e0 e1 e2 e3 e4 e5 o0 o1 o2 o3 o4 o5 of0 of1 of2 of3 of4 of5 p0 p1 p2 pf0 pf1 pf2
 have o0 : wf.cell? ⟨w.heap.size + 1 + 1, 0, none⟩ = some (.int .i64 T) := by simp [World.cell?, hfO]
 have o1 : wf.cell? ⟨w.heap.size + 1 + 1, 1, none⟩ = some (.int .i64 C) := by simp [World.cell?, hfO]
 have o2 : wf.cell? ⟨w.heap.size + 1 + 1, 2, none⟩ = some (.slice A q c) := by simp [World.cell?, hfO]
 have o3 : wf.cell? ⟨w.heap.size + 1 + 1, 3, none⟩ = some (.int .u64 RZ) := by simp [World.cell?, hfO]
 have o4 : wf.cell? ⟨w.heap.size + 1 + 1, 4, none⟩ = some (.slice A0 n c0) := by simp [World.cell?, hfO]
 have o5 : wf.cell? ⟨w.heap.size + 1 + 1, 5, none⟩ = some (.slice A1 n c1) := by simp [World.cell?, hfO]
 have p0 : wf.cell? ⟨w.heap.size + 1 + 1 + 1, 0, none⟩ = some (.int .u64 0) := by simp [World.cell?, hfP]
 have p1 : wf.cell? ⟨w.heap.size + 1 + 1 + 1, 1, none⟩ = some (.slice none 0 0) := by simp [World.cell?, hfP]
 have p2 : wf.cell? ⟨w.heap.size + 1 + 1 + 1, 2, none⟩ = some (.bool false) := by simp [World.cell?, hfP]
 refine bodyPost_ret (v := .tuple #[.agg #[.int .i64 T, .int .i64 C, .slice A q c, .int .u64 RZ, .slice A0 n c0, .slice A1 n c1], .agg #[.int .u64 0, .slice none 0 0, .bool false]]) (by simp [results, Try.results19, go_sem, o0, o1, o2, o3, o4, o5, p0, p1, p2]) rfl ⟨_, _, rfl, ⟨_, _, _, _, _, _, _, rfl, hfw, hfd⟩, ⟨_, _, _, rfl, hfb⟩, hF⟩
set_option maxRecDepth 100000 in
set_option maxHeartbeats 2000000 in
theorem rdo_7 (T C : Int) (A : Option Addr) (q c : Nat) (ws : List Int) (RN n : Nat) (A0 A1 : Option Addr) (c0 c1 : Nat) (K0 K1 : List Key) (me ce a b : Int) (D : Option Addr) (m cd : Nat) (B : Option Addr) (q2 cb : Nat) (dat : List UInt8) (wd : List Int) (w : World) (hA : WordsV w A q c ws) (hd : DkK w (.agg #[.int .u64 (RN : Int), .slice A0 n c0, .slice A1 n c1]) (RN : Int) n K0 K1)
  (hB : BytesV w D m cd dat) (hwd : WordsV w B q2 cb wd) (ha : 0 ≤ a ∧ a < 18446744073709551616) (hb : 0 ≤ b ∧ b < 18446744073709551616) {mF : Nat} (hF : Fit ⟨T, C, ws, RN, n, K0, K1⟩ mF)  :
  Calls Try.prog 19 #[.agg #[.int .i64 T, .int .i64 C, .slice A q c, .int .u64 (RN : Int), .slice A0 n c0, .slice A1 n c1], .int .i64 me, .agg #[.int .i64 7, .int .i64 ce, .int .u64 a, .int .u64 b, .slice D m cd, .slice B q2 cb], .bool false] w (DoPost (⟨T, C, ws, RN, n, K0, K1⟩ : WldK) ⟨(RN : Int), [], false⟩ w) := by
 have hlen := hA.len
 have hlen2 := hwd.len
 have hpos : 0 < n := hF.pos
 have hn : n ≤ 64 := hF.le
 have hn6 : n ≤ 65536 := by omega
 have hR : RN < 18446744073709551616 := by have := hF.root.2; simp only at this; omega
 have hws2 : 2 ≤ ws.length := hF.ws.1
 have hws6 : ws.length ≤ 65536 := hF.ws.2
 have hm0 : ∀ x ∈ K0, x.1.length + mF ≤ 65536 := hF.k0
 have hm1 : ∀ x ∈ K1, x.1.length + mF ≤ 65536 := hF.k1
 have hs0 : ∀ x ∈ K0, x.1.length ≤ 65536 := fun x hx => by have := hm0 x hx; omega
 have hs1 : ∀ x ∈ K1, x.1.length ≤ 65536 := fun x hx => by have := hm1 x hx; omega
 clear hF
 obtain ⟨rr, hrr, hr2⟩ : ∃ rr, RN % 2 = rr ∧ rr < 2 := ⟨_, rfl, Nat.mod_lt _ (by omega)⟩
 have hri : (RN : Int) % 2 = (rr : Int) := by omega
 have hsub : IntKind.i64.wrap (1 - (rr : Int)) = 1 - (rr : Int) := by rw [IntKind.wrap_i64]; omega
 have hm : Int.tmod (RN : Int) 2 = (rr : Int) := by rw [Int.tmod_eq_emod_of_nonneg (by omega)]; omega
 have hw1 : IntKind.u64.wrap (rr : Int) = (rr : Int) := by rw [IntKind.wrap_u64]; omega
 have hw2 : IntKind.i64.wrap (rr : Int) = (rr : Int) := by rw [IntKind.wrap_i64]; omega
 try rw [hri]
 clear hrr hri
 go_enter Try.func19, Try.ntmps19
 go_upto_region 1 with (fail)
 obtain ⟨hW, hE, hG, hO, hP⟩ := boxes4 w (.cells #[.int .i64 T, .int .i64 C, .slice A q c, .int .u64 (RN : Int), .slice A0 n c0, .slice A1 n c1] 32) (.cells #[.int .i64 7, .int .i64 ce, .int .u64 a, .int .u64 b, .slice D m cd, .slice B q2 cb] 42) (.cells #[.int .i64 0, .int .i64 0, .slice none 0 0, .int .u64 0, .slice none 0 0, .slice none 0 0] 32) (.cells #[.int .u64 0, .slice none 0 0, .bool false] 51)
 generalize (((w.alloc (.cells #[.int .i64 T, .int .i64 C, .slice A q c, .int .u64 (RN : Int), .slice A0 n c0, .slice A1 n c1] 32)).alloc (.cells #[.int .i64 7, .int .i64 ce, .int .u64 a, .int .u64 b, .slice D m cd, .slice B q2 cb] 42)).alloc (.cells #[.int .i64 0, .int .i64 0, .slice none 0 0, .int .u64 0, .slice none 0 0, .slice none 0 0] 32)).alloc (.cells #[.int .u64 0, .slice none 0 0, .bool false] 51) = W at *
 have hlt : w.heap.size + 1 + 1 + 1 < W.heap.size := (Array.getElem?_eq_some_iff.1 hP).1
 have e0 : W.cell? ⟨w.heap.size, 0, none⟩ = some (.int .i64 T) := by simp [World.cell?, hE]
 have e1 : W.cell? ⟨w.heap.size, 1, none⟩ = some (.int .i64 C) := by simp [World.cell?, hE]
 have e2 : W.cell? ⟨w.heap.size, 2, none⟩ = some (.slice A q c) := by simp [World.cell?, hE]
 have e3 : W.cell? ⟨w.heap.size, 3, none⟩ = some (.int .u64 (RN : Int)) := by simp [World.cell?, hE]
 have e4 : W.cell? ⟨w.heap.size, 4, none⟩ = some (.slice A0 n c0) := by simp [World.cell?, hE]
 have e5 : W.cell? ⟨w.heap.size, 5, none⟩ = some (.slice A1 n c1) := by simp [World.cell?, hE]
 have g0 : W.cell? ⟨w.heap.size + 1, 0, none⟩ = some (.int .i64 7) := by simp [World.cell?, hG]
 have g1 : W.cell? ⟨w.heap.size + 1, 1, none⟩ = some (.int .i64 ce) := by simp [World.cell?, hG]
 have g2 : W.cell? ⟨w.heap.size + 1, 2, none⟩ = some (.int .u64 a) := by simp [World.cell?, hG]
 have g3 : W.cell? ⟨w.heap.size + 1, 3, none⟩ = some (.int .u64 b) := by simp [World.cell?, hG]
 have g4 : W.cell? ⟨w.heap.size + 1, 4, none⟩ = some (.slice D m cd) := by simp [World.cell?, hG]
 have g5 : W.cell? ⟨w.heap.size + 1, 5, none⟩ = some (.slice B q2 cb) := by simp [World.cell?, hG]
 go_upto_region 2 with (fail)
 clear hm hw1 hw2
 go_upto_region 12 with (fail)
 clear e0 e1 e2 e3 e4 e5 g0 g1 g2 g3 g4 g5
 have hdk := hd.ext hW
 have hwv := hA.ext hW
 have hby := bytes_nil W
 have hwl := hws2
 have HE := Lib.hid hE
 have HO := Lib.hid hO
 have HP := Lib.hid hP
 have HW := Lib.hid hW
 clear hE hG hO hP hW hlt
 obtain ⟨gOO, hOO⟩ : ∃ g, g = w.heap.size + 1 + 1 := ⟨_, rfl⟩
 refine' SB.wp_region_sure (gx := [(5, gOO)]) (Pn := fun _ _ => False) ⟨((some 64, [], none) :: (some 65, [], none) :: (some 66, [1], none) :: (some 67, [2], none) :: (some 68, [3], none) :: (none, [0, 0], none) :: (none, [4, 5, 0, 1, 2, 3, 4, 5], none) :: []), (0 :: 0 :: 2 :: 6 :: 14 :: 1 :: 63 :: []), (none :: none :: none :: none :: none :: some [] :: []), [5]⟩ 6 246 [(0, 64), (1, 65), (2, 66), (3, 67), (4, 68)] [(0, 64), (1, 65), (2, 66), (3, 67), (4, 68)] (.det _ :: .det _ :: .det _ :: .det _ :: .det _ :: SB.Good.of (fun v w => w.heap[gOO]? = some (.cells #[.int .i64 T, .int .i64 C, .slice A q c, .int .u64 (RN : Int), .slice A0 n c0, .slice A1 n c1] 32 (0, 0))) (fun v w w' h hx => heap_ext h hx) :: []) (by kernel_rfl) ?hpan (by kernel_rfl) (by kernel_rfl) rfl (by kernel_rfl) (by kernel_rfl) rfl ?hone ?hend
 case hpan =>
  intro _ _ _ _ h; exact h.elim
 case hone =>
  intro CS frS VS hCS ha hV
  have qs4 := slot_val (t := 4) ha rfl
  simp only [List.getElem_toArray, List.getElem_cons_succ, List.getElem_cons_zero] at qs4
  have qs8 := slot_val (t := 8) ha rfl
  simp only [List.getElem_toArray, List.getElem_cons_succ, List.getElem_cons_zero] at qs8
  have HCS := Lib.hid hCS
  have HVS := Lib.hid hV
  clear ha hCS hV
  refine SB.sure_det (js := []) (ts := [4]) (gd := none) (bs := []) (SB.place_at HVS.out (k := 0) rfl) (by rw [HCS.out]; kernel_rfl) (by rw [HCS.out]; kernel_rfl) ?_ ?_
  ·intro wx hx ρ hρ hs hf; have hρc := hρ.const; have hρf := hρ.func
   obtain ⟨fx4, -⟩ := hf; rw [qs4] at fx4
   clear hs
   clear HCS HVS qs4 qs8
   refine SB.run_plain ?_
   have hgd : wx.heap[w.heap.size]? = some (.cells #[.int .i64 T, .int .i64 C, .slice A q c, .int .u64 (RN : Int), .slice A0 n c0, .slice A1 n c1] 32 (0, 0)) := hx.heap HE.out (by simp <;> omega)
   have hd0 : wx.cell? ⟨w.heap.size, 0, none⟩ = some (.int .i64 T) := by simp [World.cell?, hgd]
   have hd1 : wx.cell? ⟨w.heap.size, 1, none⟩ = some (.int .i64 C) := by simp [World.cell?, hgd]
   have hd2 : wx.cell? ⟨w.heap.size, 2, none⟩ = some (.slice A q c) := by simp [World.cell?, hgd]
   have hd3 : wx.cell? ⟨w.heap.size, 3, none⟩ = some (.int .u64 (RN : Int)) := by simp [World.cell?, hgd]
   have hd4 : wx.cell? ⟨w.heap.size, 4, none⟩ = some (.slice A0 n c0) := by simp [World.cell?, hgd]
   have hd5 : wx.cell? ⟨w.heap.size, 5, none⟩ = some (.slice A1 n c1) := by simp [World.cell?, hgd]
   unfold SB.runs
   go_simp
   exact SB.detK.mk
  refine SB.sure_det (js := []) (ts := [4]) (gd := none) (bs := [gOO]) (SB.place_at HVS.out (k := 1) rfl) (by rw [HCS.out]; kernel_rfl) (by rw [HCS.out]; kernel_rfl) ?_ ?_
  ·intro wx hx ρ hρ hs hf; have hρc := hρ.const; have hρf := hρ.func
   obtain ⟨fx4, -⟩ := hf; rw [qs4] at fx4
   clear hs
   clear HCS HVS qs4 qs8
   refine SB.run_plain ?_
   unfold SB.runs
   go_simp
   exact SB.detK.mk
  refine SB.sure_det (js := [(1, 65)]) (ts := []) (gd := none) (bs := [gOO]) (SB.place_at HVS.out (k := 2) rfl) (by rw [HCS.out]; kernel_rfl) (by rw [HCS.out]; kernel_rfl) ?_ ?_
  ·intro wx hx ρ hρ hs hf; have hρc := hρ.const; have hρf := hρ.func; obtain ⟨sn1, -⟩ := hs
   rw [SB.place_at HVS.out (k := 1) rfl] at sn1; replace sn1 : ρ (.tmp 65) = _ := sn1
   clear hf
   clear HCS HVS qs4 qs8
   refine SB.run_plain ?_
   unfold SB.runs
   go_simp
   exact SB.detK.mk
  refine SB.sure_det (js := [(2, 66)]) (ts := []) (gd := none) (bs := [gOO]) (SB.place_at HVS.out (k := 3) rfl) (by rw [HCS.out]; kernel_rfl) (by rw [HCS.out]; kernel_rfl) ?_ ?_
  ·intro wx hx ρ hρ hs hf; have hρc := hρ.const; have hρf := hρ.func; obtain ⟨sn2, -⟩ := hs
   rw [SB.place_at HVS.out (k := 2) rfl] at sn2; replace sn2 : ρ (.tmp 66) = _ := sn2
   clear hf
   clear HCS HVS qs4 qs8
   refine SB.run_plain ?_
   have hgd : wx.heap[w.heap.size]? = some (.cells #[.int .i64 T, .int .i64 C, .slice A q c, .int .u64 (RN : Int), .slice A0 n c0, .slice A1 n c1] 32 (0, 0)) := hx.heap HE.out (by simp <;> omega)
   have hd0 : wx.cell? ⟨w.heap.size, 0, none⟩ = some (.int .i64 T) := by simp [World.cell?, hgd]
   have hd1 : wx.cell? ⟨w.heap.size, 1, none⟩ = some (.int .i64 C) := by simp [World.cell?, hgd]
   have hd2 : wx.cell? ⟨w.heap.size, 2, none⟩ = some (.slice A q c) := by simp [World.cell?, hgd]
   have hd3 : wx.cell? ⟨w.heap.size, 3, none⟩ = some (.int .u64 (RN : Int)) := by simp [World.cell?, hgd]
   have hd4 : wx.cell? ⟨w.heap.size, 4, none⟩ = some (.slice A0 n c0) := by simp [World.cell?, hgd]
   have hd5 : wx.cell? ⟨w.heap.size, 5, none⟩ = some (.slice A1 n c1) := by simp [World.cell?, hgd]
   unfold SB.runs
   go_simp
   exact SB.detK.mk
  refine SB.sure_det (js := [(3, 67)]) (ts := []) (gd := none) (bs := [gOO]) (SB.place_at HVS.out (k := 4) rfl) (by rw [HCS.out]; kernel_rfl) (by rw [HCS.out]; kernel_rfl) ?_ ?_
  ·intro wx hx ρ hρ hs hf; have hρc := hρ.const; have hρf := hρ.func; obtain ⟨sn3, -⟩ := hs
   rw [SB.place_at HVS.out (k := 3) rfl] at sn3; replace sn3 : ρ (.tmp 67) = _ := sn3
   clear hf
   clear HCS HVS qs4 qs8
   refine SB.run_plain ?_
   unfold SB.runs
   go_simp
   exact SB.detK.mk
  refine SB.sure_wild (js := [(0, 64)]) (ts := [8]) (gd := none) (bs := []) (cs := [gOO]) (SB.place_at HVS.out (k := 5) rfl) (by rw [HCS.out]; kernel_rfl) (by rw [HCS.out]; kernel_rfl) rfl ?_ ?_
  ·intro wx hx ρ hρ hs hf; have hρc := hρ.const; have hρf := hρ.func; obtain ⟨sn0, -⟩ := hs
   obtain ⟨fx8, -⟩ := hf; rw [qs8] at fx8
   rw [SB.place_at HVS.out (k := 0) rfl] at sn0; replace sn0 : ρ (.tmp 64) = _ := sn0
   clear HCS HVS qs4 qs8
   refine SB.run_plain ?_
   subst hOO
   have hg : wx.heap[w.heap.size + 1 + 1]? = some (.cells #[.int .i64 0, .int .i64 0, .slice none 0 0, .int .u64 0, .slice none 0 0, .slice none 0 0] 32 (0, 0)) := hx.heap HO.out (by simp)
   have f0 : wx.frozen? ⟨w.heap.size + 1 + 1, 0, none⟩ = false := by simp [World.frozen?, hg]
   have c0' : wx.cell? ⟨w.heap.size + 1 + 1, 0, none⟩ = some (.int .i64 0) := by simp [World.cell?, hg]
   have f1 : wx.frozen? ⟨w.heap.size + 1 + 1, 1, none⟩ = false := by simp [World.frozen?, hg]
   have c1' : wx.cell? ⟨w.heap.size + 1 + 1, 1, none⟩ = some (.int .i64 0) := by simp [World.cell?, hg]
   have f2 : wx.frozen? ⟨w.heap.size + 1 + 1, 2, none⟩ = false := by simp [World.frozen?, hg]
   have c2' : wx.cell? ⟨w.heap.size + 1 + 1, 2, none⟩ = some (.slice none 0 0) := by simp [World.cell?, hg]
   have f3 : wx.frozen? ⟨w.heap.size + 1 + 1, 3, none⟩ = false := by simp [World.frozen?, hg]
   have c3' : wx.cell? ⟨w.heap.size + 1 + 1, 3, none⟩ = some (.int .u64 0) := by simp [World.cell?, hg]
   have f4 : wx.frozen? ⟨w.heap.size + 1 + 1, 4, none⟩ = false := by simp [World.frozen?, hg]
   have c4' : wx.cell? ⟨w.heap.size + 1 + 1, 4, none⟩ = some (.slice none 0 0) := by simp [World.cell?, hg]
   have f5 : wx.frozen? ⟨w.heap.size + 1 + 1, 5, none⟩ = false := by simp [World.frozen?, hg]
   have c5' : wx.cell? ⟨w.heap.size + 1 + 1, 5, none⟩ = some (.slice none 0 0) := by simp [World.cell?, hg]
   unfold SB.runs
   go_simp
   exact ⟨.ofB (((((((ExtB.refl _ _).set _ _).set _ _).set _ _).set _ _).set _ _).set _ _) (by simp), setAll_all (vs := [.int .i64 T, .int .i64 C, .slice A q c, .int .u64 (RN : Int), .slice A0 n c0, .slice A1 n c1]) hg rfl⟩
  exact trivial
 case hend =>
  intro xs wx hx hg hq
  have gk0 : xs 0 = _ := SB.goods_get hg (i := 0) (j := 0) (d := 64) rfl
  have gk1 : xs 1 = _ := SB.goods_get hg (i := 1) (j := 1) (d := 65) rfl
  have gk2 : xs 2 = _ := SB.goods_get hg (i := 2) (j := 2) (d := 66) rfl
  have gk3 : xs 3 = _ := SB.goods_get hg (i := 3) (j := 3) (d := 67) rfl
  have gk4 : xs 4 = _ := SB.goods_get hg (i := 4) (j := 4) (d := 68) rfl
  obtain ⟨-, gk5⟩ : ∃ v : Value, wx.heap[gOO]? = some (.cells #[.int .i64 T, .int .i64 C, .slice A q c, .int .u64 (RN : Int), .slice A0 n c0, .slice A1 n c1] 32 (0, 0)) := hq 5 (by decide) (by kernel_rfl)
  clear hg hq
  simp only [putAll, gk0, gk1, gk2, gk3, gk4]
  clear gk0 gk1 gk2 gk3 gk4
  clear xs
  simp only [Act.put, List.setIfInBounds_toArray, List.set_cons_zero, List.set_cons_succ, List.drop_succ_cons, List.drop_zero]
  subst hOO
  have hgO := gk5
  have hxs : SB.ExtS [w.heap.size + 1 + 1] W.drew wx := hx
  have hbut : But (w.heap.size + 1 + 1) W wx := But.exts hxs
  have hgP : wx.heap[w.heap.size + 1 + 1 + 1]? = some (.cells #[.int .u64 0, .slice none 0 0, .bool false] 51 (0, 0)) := hbut _ _ (by omega) HP.out
  have hWx : Ext w wx := extS_base HW.out hxs (by omega)
  replace hdk := hdk.but hbut HO.out rfl
  replace hby := BytesV.but hby hbut HO.out rfl
  replace hwv := WordsV.but hwv hwl hbut HO.out rfl
  have hF : Ext w (((wx.setCell ⟨w.heap.size + 1 + 1 + 1, 0, none⟩ (.int .u64 (RN : Int))).setCell ⟨w.heap.size + 1 + 1 + 1, 1, none⟩ (.slice none 0 0)).setCell ⟨w.heap.size + 1 + 1 + 1, 2, none⟩ (.bool false)) := setAll_ext (g := w.heap.size + 1 + 1 + 1) (vs := [.int .u64 (RN : Int), .slice none 0 0, .bool false]) (i := 0) hWx (by omega)
  have hfP : (((wx.setCell ⟨w.heap.size + 1 + 1 + 1, 0, none⟩ (.int .u64 (RN : Int))).setCell ⟨w.heap.size + 1 + 1 + 1, 1, none⟩ (.slice none 0 0)).setCell ⟨w.heap.size + 1 + 1 + 1, 2, none⟩ (.bool false)).heap[w.heap.size + 1 + 1 + 1]? = some (.cells #[.int .u64 (RN : Int), .slice none 0 0, .bool false] 51 (0, 0)) := setAll_all (vs := [.int .u64 (RN : Int), .slice none 0 0, .bool false]) hgP rfl
  have hfO : (((wx.setCell ⟨w.heap.size + 1 + 1 + 1, 0, none⟩ (.int .u64 (RN : Int))).setCell ⟨w.heap.size + 1 + 1 + 1, 1, none⟩ (.slice none 0 0)).setCell ⟨w.heap.size + 1 + 1 + 1, 2, none⟩ (.bool false)).heap[w.heap.size + 1 + 1]? = some (.cells #[.int .i64 T, .int .i64 C, .slice A q c, .int .u64 (RN : Int), .slice A0 n c0, .slice A1 n c1] 32 (0, 0)) := (setAll_other (g := w.heap.size + 1 + 1 + 1) (by omega) [.int .u64 (RN : Int), .slice none 0 0, .bool false] 0 wx).trans hgO
  have hfd := hdk.but (But.all (w.heap.size + 1 + 1 + 1) [.int .u64 (RN : Int), .slice none 0 0, .bool false] 0 wx) hgP rfl
  have hfb := BytesV.but hby (But.all (w.heap.size + 1 + 1 + 1) [.int .u64 (RN : Int), .slice none 0 0, .bool false] 0 wx) hgP rfl
  have hfw := WordsV.but hwv hwl (But.all (w.heap.size + 1 + 1 + 1) [.int .u64 (RN : Int), .slice none 0 0, .bool false] 0 wx) hgP rfl
  change DkK (((wx.setCell ⟨w.heap.size + 1 + 1 + 1, 0, none⟩ (.int .u64 (RN : Int))).setCell ⟨w.heap.size + 1 + 1 + 1, 1, none⟩ (.slice none 0 0)).setCell ⟨w.heap.size + 1 + 1 + 1, 2, none⟩ (.bool false)) _ _ _ _ _ at hfd
  change BytesV (((wx.setCell ⟨w.heap.size + 1 + 1 + 1, 0, none⟩ (.int .u64 (RN : Int))).setCell ⟨w.heap.size + 1 + 1 + 1, 1, none⟩ (.slice none 0 0)).setCell ⟨w.heap.size + 1 + 1 + 1, 2, none⟩ (.bool false)) _ _ _ _ at hfb
  change WordsV (((wx.setCell ⟨w.heap.size + 1 + 1 + 1, 0, none⟩ (.int .u64 (RN : Int))).setCell ⟨w.heap.size + 1 + 1 + 1, 1, none⟩ (.slice none 0 0)).setCell ⟨w.heap.size + 1 + 1 + 1, 2, none⟩ (.bool false)) _ _ _ _ at hfw
  have p0 : wx.cell? ⟨w.heap.size + 1 + 1 + 1, 0, none⟩ = some (.int .u64 0) := by simp [World.cell?, hgP]
  have pf0 : wx.frozen? ⟨w.heap.size + 1 + 1 + 1, 0, none⟩ = false := by simp [World.frozen?, hgP]
  have p1 : wx.cell? ⟨w.heap.size + 1 + 1 + 1, 1, none⟩ = some (.slice none 0 0) := by simp [World.cell?, hgP]
  have pf1 : wx.frozen? ⟨w.heap.size + 1 + 1 + 1, 1, none⟩ = false := by simp [World.frozen?, hgP]
  have p2 : wx.cell? ⟨w.heap.size + 1 + 1 + 1, 2, none⟩ = some (.bool false) := by simp [World.cell?, hgP]
  have pf2 : wx.frozen? ⟨w.heap.size + 1 + 1 + 1, 2, none⟩ = false := by simp [World.frozen?, hgP]
  clear hx hxs hbut hdk hby hwv
  go_wp2
  generalize (((wx.setCell ⟨w.heap.size + 1 + 1 + 1, 0, none⟩ (.int .u64 (RN : Int))).setCell ⟨w.heap.size + 1 + 1 + 1, 1, none⟩ (.slice none 0 0)).setCell ⟨w.heap.size + 1 + 1 + 1, 2, none⟩ (.bool false)) = wf at *
  clear p0 p1 p2 pf0 pf1 pf2
  have o0 : wf.cell? ⟨w.heap.size + 1 + 1, 0, none⟩ = some (.int .i64 T) := by simp [World.cell?, hfO]
  have o1 : wf.cell? ⟨w.heap.size + 1 + 1, 1, none⟩ = some (.int .i64 C) := by simp [World.cell?, hfO]
  have o2 : wf.cell? ⟨w.heap.size + 1 + 1, 2, none⟩ = some (.slice A q c) := by simp [World.cell?, hfO]
  have o3 : wf.cell? ⟨w.heap.size + 1 + 1, 3, none⟩ = some (.int .u64 (RN : Int)) := by simp [World.cell?, hfO]
  have o4 : wf.cell? ⟨w.heap.size + 1 + 1, 4, none⟩ = some (.slice A0 n c0) := by simp [World.cell?, hfO]
  have o5 : wf.cell? ⟨w.heap.size + 1 + 1, 5, none⟩ = some (.slice A1 n c1) := by simp [World.cell?, hfO]
  have p0 : wf.cell? ⟨w.heap.size + 1 + 1 + 1, 0, none⟩ = some (.int .u64 (RN : Int)) := by simp [World.cell?, hfP]
  have p1 : wf.cell? ⟨w.heap.size + 1 + 1 + 1, 1, none⟩ = some (.slice none 0 0) := by simp [World.cell?, hfP]
  have p2 : wf.cell? ⟨w.heap.size + 1 + 1 + 1, 2, none⟩ = some (.bool false) := by simp [World.cell?, hfP]
  refine bodyPost_ret (v := .tuple #[.agg #[.int .i64 T, .int .i64 C, .slice A q c, .int .u64 (RN : Int), .slice A0 n c0, .slice A1 n c1], .agg #[.int .u64 (RN : Int), .slice none 0 0, .bool false]]) (by simp [results, Try.results19, go_sem, o0, o1, o2, o3, o4, o5, p0, p1, p2]) rfl ⟨_, _, rfl, ⟨_, _, _, _, _, _, _, rfl, hfw, hfd⟩, ⟨_, _, _, rfl, hfb⟩, hF⟩
end Go.Proofs.Ytennnhfaghdeoaa
