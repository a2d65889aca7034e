import Derived.Test.YtennnhfaghdeoaaAccRefA
import Derived.Test.YtennnhfaghdeoaaAccDo
namespace Go.Proofs.Ytennnhfaghdeoaa
open Go.RowKit

/-! wealdref10.Do: a memory laid anew, and the accesses of words. -/
set_option maxRecDepth 100000 in
set_option maxHeartbeats 2000000 in
theorem rdo_inst_no (T C : Int) (A : Option Addr) (q c : Nat) (ws : List Int) (RN n : Nat) (A0 A1 : Option Addr) (c0 c1 : Nat) (K0 K1 : List Key) (me ce a b : Int) (D : Option Addr) (m cd : Nat) (B : Option Addr) (q2 cb : Nat) (dat : List UInt8) (wd : List Int) (w : World) (hA : WordsV w A q c ws) (hd : DkK w (.agg #[.int .u64 (RN : Int), .slice A0 n c0, .slice A1 n c1]) (RN : Int) n K0 K1)
  (hB : BytesV w D m cd dat) (hwd : WordsV w B q2 cb wd) (ha : 0 ≤ a ∧ a < 18446744073709551616) (hb : 0 ≤ b ∧ b < 18446744073709551616) {mF : Nat} (hF : Fit ⟨T, C, ws, RN, n, K0, K1⟩ mF) (fl : Bool) (hne : ¬ wd.length = ws.length) :
  Calls Try.prog 19 #[.agg #[.int .i64 T, .int .i64 C, .slice A q c, .int .u64 (RN : Int), .slice A0 n c0, .slice A1 n c1], .int .i64 me, .agg #[.int .i64 13, .int .i64 ce, .int .u64 a, .int .u64 b, .slice D m cd, .slice B q2 cb], .bool fl] w (DoPost (⟨T, C, ws, RN, n, K0, K1⟩ : WldK) ResK.zero w) := by
 have hlen := hA.len
 have hlen2 := hwd.len
 have hpos : 0 < n := hF.pos
 have hn : n ≤ 64 := hF.le
 have hn6 : n ≤ 65536 := by omega
 have hR : RN < 18446744073709551616 := by have := hF.root.2; simp only at this; omega
 have hws2 : 2 ≤ ws.length := hF.ws.1
 have hws6 : ws.length ≤ 65536 := hF.ws.2
 have hm0 : ∀ x ∈ K0, x.1.length + mF ≤ 65536 := hF.k0
 have hm1 : ∀ x ∈ K1, x.1.length + mF ≤ 65536 := hF.k1
 have hs0 : ∀ x ∈ K0, x.1.length ≤ 65536 := fun x hx => by have := hm0 x hx; omega
 have hs1 : ∀ x ∈ K1, x.1.length ≤ 65536 := fun x hx => by have := hm1 x hx; omega
 clear hF
 obtain ⟨rr, hrr, hr2⟩ : ∃ rr, RN % 2 = rr ∧ rr < 2 := ⟨_, rfl, Nat.mod_lt _ (by omega)⟩
 have hri : (RN : Int) % 2 = (rr : Int) := by omega
 have hsub : IntKind.i64.wrap (1 - (rr : Int)) = 1 - (rr : Int) := by rw [IntKind.wrap_i64]; omega
 have hm : Int.tmod (RN : Int) 2 = (rr : Int) := by rw [Int.tmod_eq_emod_of_nonneg (by omega)]; omega
 have hw1 : IntKind.u64.wrap (rr : Int) = (rr : Int) := by rw [IntKind.wrap_u64]; omega
 have hw2 : IntKind.i64.wrap (rr : Int) = (rr : Int) := by rw [IntKind.wrap_i64]; omega
 try rw [hri]
 clear hrr hri
 go_enter Try.func19, Try.ntmps19
 go_upto_region 1 with (fail)
 obtain ⟨hW, hE, hG, hO, hP⟩ := boxes4 w (.cells #[.int .i64 T, .int .i64 C, .slice A q c, .int .u64 (RN : Int), .slice A0 n c0, .slice A1 n c1] 32) (.cells #[.int .i64 13, .int .i64 ce, .int .u64 a, .int .u64 b, .slice D m cd, .slice B q2 cb] 42) (.cells #[.int .i64 0, .int .i64 0, .slice none 0 0, .int .u64 0, .slice none 0 0, .slice none 0 0] 32) (.cells #[.int .u64 0, .slice none 0 0, .bool false] 51)
 generalize (((w.alloc (.cells #[.int .i64 T, .int .i64 C, .slice A q c, .int .u64 (RN : Int), .slice A0 n c0, .slice A1 n c1] 32)).alloc (.cells #[.int .i64 13, .int .i64 ce, .int .u64 a, .int .u64 b, .slice D m cd, .slice B q2 cb] 42)).alloc (.cells #[.int .i64 0, .int .i64 0, .slice none 0 0, .int .u64 0, .slice none 0 0, .slice none 0 0] 32)).alloc (.cells #[.int .u64 0, .slice none 0 0, .bool false] 51) = W at *
 have hlt : w.heap.size + 1 + 1 + 1 < W.heap.size := (Array.getElem?_eq_some_iff.1 hP).1
 have e0 : W.cell? ⟨w.heap.size, 0, none⟩ = some (.int .i64 T) := by simp [World.cell?, hE]
 have e1 : W.cell? ⟨w.heap.size, 1, none⟩ = some (.int .i64 C) := by simp [World.cell?, hE]
 have e2 : W.cell? ⟨w.heap.size, 2, none⟩ = some (.slice A q c) := by simp [World.cell?, hE]
 have e3 : W.cell? ⟨w.heap.size, 3, none⟩ = some (.int .u64 (RN : Int)) := by simp [World.cell?, hE]
 have e4 : W.cell? ⟨w.heap.size, 4, none⟩ = some (.slice A0 n c0) := by simp [World.cell?, hE]
 have e5 : W.cell? ⟨w.heap.size, 5, none⟩ = some (.slice A1 n c1) := by simp [World.cell?, hE]
 have g0 : W.cell? ⟨w.heap.size + 1, 0, none⟩ = some (.int .i64 13) := by simp [World.cell?, hG]
 have g1 : W.cell? ⟨w.heap.size + 1, 1, none⟩ = some (.int .i64 ce) := by simp [World.cell?, hG]
 have g2 : W.cell? ⟨w.heap.size + 1, 2, none⟩ = some (.int .u64 a) := by simp [World.cell?, hG]
 have g3 : W.cell? ⟨w.heap.size + 1, 3, none⟩ = some (.int .u64 b) := by simp [World.cell?, hG]
 have g4 : W.cell? ⟨w.heap.size + 1, 4, none⟩ = some (.slice D m cd) := by simp [World.cell?, hG]
 have g5 : W.cell? ⟨w.heap.size + 1, 5, none⟩ = some (.slice B q2 cb) := by simp [World.cell?, hG]
 go_upto_region 2 with (fail)
 clear hm hw1 hw2
 have hq2 : ((q2 : Int) == (q : Int)) = false := by simp; omega
 go_upto_region 31 with (fail)
 clear e0 e1 e2 e3 e4 e5 g0 g1 g2 g3 g4 g5
 have hdk := hd.ext hW
 have hwv := hA.ext hW
 have hby := bytes_nil W
 have hwl := hws2
 have e0 : W.cell? ⟨w.heap.size, 0, none⟩ = some (.int .i64 T) := by simp [World.cell?, hE]
 have e1 : W.cell? ⟨w.heap.size, 1, none⟩ = some (.int .i64 C) := by simp [World.cell?, hE]
 have e2 : W.cell? ⟨w.heap.size, 2, none⟩ = some (.slice A q c) := by simp [World.cell?, hE]
 have e3 : W.cell? ⟨w.heap.size, 3, none⟩ = some (.int .u64 (RN : Int)) := by simp [World.cell?, hE]
 have e4 : W.cell? ⟨w.heap.size, 4, none⟩ = some (.slice A0 n c0) := by simp [World.cell?, hE]
 have e5 : W.cell? ⟨w.heap.size, 5, none⟩ = some (.slice A1 n c1) := by simp [World.cell?, hE]
 have o0 : W.cell? ⟨w.heap.size + 1 + 1, 0, none⟩ = some (.int .i64 0) := by simp [World.cell?, hO]
 have of0 : W.frozen? ⟨w.heap.size + 1 + 1, 0, none⟩ = false := by simp [World.frozen?, hO]
 have o1 : W.cell? ⟨w.heap.size + 1 + 1, 1, none⟩ = some (.int .i64 0) := by simp [World.cell?, hO]
 have of1 : W.frozen? ⟨w.heap.size + 1 + 1, 1, none⟩ = false := by simp [World.frozen?, hO]
 have o2 : W.cell? ⟨w.heap.size + 1 + 1, 2, none⟩ = some (.slice none 0 0) := by simp [World.cell?, hO]
 have of2 : W.frozen? ⟨w.heap.size + 1 + 1, 2, none⟩ = false := by simp [World.frozen?, hO]
 have o3 : W.cell? ⟨w.heap.size + 1 + 1, 3, none⟩ = some (.int .u64 0) := by simp [World.cell?, hO]
 have of3 : W.frozen? ⟨w.heap.size + 1 + 1, 3, none⟩ = false := by simp [World.frozen?, hO]
 have o4 : W.cell? ⟨w.heap.size + 1 + 1, 4, none⟩ = some (.slice none 0 0) := by simp [World.cell?, hO]
 have of4 : W.frozen? ⟨w.heap.size + 1 + 1, 4, none⟩ = false := by simp [World.frozen?, hO]
 have o5 : W.cell? ⟨w.heap.size + 1 + 1, 5, none⟩ = some (.slice none 0 0) := by simp [World.cell?, hO]
 have of5 : W.frozen? ⟨w.heap.size + 1 + 1, 5, none⟩ = false := by simp [World.frozen?, hO]
 have p0 : W.cell? ⟨w.heap.size + 1 + 1 + 1, 0, none⟩ = some (.int .u64 0) := by simp [World.cell?, hP]
 have pf0 : W.frozen? ⟨w.heap.size + 1 + 1 + 1, 0, none⟩ = false := by simp [World.frozen?, hP]
 have p1 : W.cell? ⟨w.heap.size + 1 + 1 + 1, 1, none⟩ = some (.slice none 0 0) := by simp [World.cell?, hP]
 have pf1 : W.frozen? ⟨w.heap.size + 1 + 1 + 1, 1, none⟩ = false := by simp [World.frozen?, hP]
 have p2 : W.cell? ⟨w.heap.size + 1 + 1 + 1, 2, none⟩ = some (.bool false) := by simp [World.cell?, hP]
 have pf2 : W.frozen? ⟨w.heap.size + 1 + 1 + 1, 2, none⟩ = false := by simp [World.frozen?, hP]
 have hPm : (setAll (w.heap.size + 1 + 1) 0 [.int .i64 T, .int .i64 C, .slice A q c, .int .u64 (RN : Int), .slice A0 n c0, .slice A1 n c1] W).heap[w.heap.size + 1 + 1 + 1]? = some (.cells #[.int .u64 0, .slice none 0 0, .bool false] 51 (0, 0)) := (setAll_other (g := w.heap.size + 1 + 1) (by omega) [.int .i64 T, .int .i64 C, .slice A q c, .int .u64 (RN : Int), .slice A0 n c0, .slice A1 n c1] 0 W).trans hP
 obtain ⟨wf, hwf⟩ : ∃ wf, wf = setAll (w.heap.size + 1 + 1 + 1) 0 [.int .u64 0, .slice none 0 0, .bool false] (setAll (w.heap.size + 1 + 1) 0 [.int .i64 T, .int .i64 C, .slice A q c, .int .u64 (RN : Int), .slice A0 n c0, .slice A1 n c1] W) := ⟨_, rfl⟩
 have hF : Ext w wf := hwf ▸ setAll_ext (g := w.heap.size + 1 + 1 + 1) (vs := [.int .u64 0, .slice none 0 0, .bool false]) (i := 0) (setAll_ext (g := w.heap.size + 1 + 1) (vs := [.int .i64 T, .int .i64 C, .slice A q c, .int .u64 (RN : Int), .slice A0 n c0, .slice A1 n c1]) (i := 0) hW (by omega)) (by omega)
 have hfO : wf.heap[w.heap.size + 1 + 1]? = some (.cells #[.int .i64 T, .int .i64 C, .slice A q c, .int .u64 (RN : Int), .slice A0 n c0, .slice A1 n c1] 32 (0, 0)) := hwf ▸ (setAll_other (g := w.heap.size + 1 + 1 + 1) (by omega) [.int .u64 0, .slice none 0 0, .bool false] 0 (setAll (w.heap.size + 1 + 1) 0 [.int .i64 T, .int .i64 C, .slice A q c, .int .u64 (RN : Int), .slice A0 n c0, .slice A1 n c1] W)).trans (setAll_all (vs := [.int .i64 T, .int .i64 C, .slice A q c, .int .u64 (RN : Int), .slice A0 n c0, .slice A1 n c1]) hO rfl)
 have hfP : wf.heap[w.heap.size + 1 + 1 + 1]? = some (.cells #[.int .u64 0, .slice none 0 0, .bool false] 51 (0, 0)) := hwf ▸ setAll_all (vs := [.int .u64 0, .slice none 0 0, .bool false]) hPm rfl
 have hfd := (hdk.but (But.all (w.heap.size + 1 + 1) [.int .i64 T, .int .i64 C, .slice A q c, .int .u64 (RN : Int), .slice A0 n c0, .slice A1 n c1] 0 W) hO rfl).but (But.all (w.heap.size + 1 + 1 + 1) [.int .u64 0, .slice none 0 0, .bool false] 0 _) hPm rfl
 have hfb := BytesV.but (BytesV.but hby (But.all (w.heap.size + 1 + 1) [.int .i64 T, .int .i64 C, .slice A q c, .int .u64 (RN : Int), .slice A0 n c0, .slice A1 n c1] 0 W) hO rfl) (But.all (w.heap.size + 1 + 1 + 1) [.int .u64 0, .slice none 0 0, .bool false] 0 _) hPm rfl
 have hfw := WordsV.but (WordsV.but hwv hwl (But.all (w.heap.size + 1 + 1) [.int .i64 T, .int .i64 C, .slice A q c, .int .u64 (RN : Int), .slice A0 n c0, .slice A1 n c1] 0 W) hO rfl) hwl (But.all (w.heap.size + 1 + 1 + 1) [.int .u64 0, .slice none 0 0, .bool false] 0 _) hPm rfl
 rw [← hwf] at hfd hfb hfw
 simp only [setAll] at hwf
 have HWF := Lib.hid hwf
 clear hwf hE hO hP hPm hdk hby hwv hW
 go_wp2_with fail
 rw [← HWF.out]
 clear HWF e0 e1 e2 e3 e4 e5 o0 o1 o2 o3 o4 o5 of0 of1 of2 of3 of4 of5 p0 p1 p2 pf0 pf1 pf2
 have o0 : wf.cell? ⟨w.heap.size + 1 + 1, 0, none⟩ = some (.int .i64 T) := by simp [World.cell?, hfO]
 have o1 : wf.cell? ⟨w.heap.size + 1 + 1, 1, none⟩ = some (.int .i64 C) := by simp [World.cell?, hfO]
 have o2 : wf.cell? ⟨w.heap.size + 1 + 1, 2, none⟩ = some (.slice A q c) := by simp [World.cell?, hfO]
 have o3 : wf.cell? ⟨w.heap.size + 1 + 1, 3, none⟩ = some (.int .u64 (RN : Int)) := by simp [World.cell?, hfO]
 have o4 : wf.cell? ⟨w.heap.size + 1 + 1, 4, none⟩ = some (.slice A0 n c0) := by simp [World.cell?, hfO]
 have o5 : wf.cell? ⟨w.heap.size + 1 + 1, 5, none⟩ = some (.slice A1 n c1) := by simp [World.cell?, hfO]
 have p0 : wf.cell? ⟨w.heap.size + 1 + 1 + 1, 0, none⟩ = some (.int .u64 0) := by simp [World.cell?, hfP]
 have p1 : wf.cell? ⟨w.heap.size + 1 + 1 + 1, 1, none⟩ = some (.slice none 0 0) := by simp [World.cell?, hfP]
 have p2 : wf.cell? ⟨w.heap.size + 1 + 1 + 1, 2, none⟩ = some (.bool false) := by simp [World.cell?, hfP]
 refine bodyPost_ret (v := .tuple #[.agg #[.int .i64 T, .int .i64 C, .slice A q c, .int .u64 (RN : Int), .slice A0 n c0, .slice A1 n c1], .agg #[.int .u64 0, .slice none 0 0, .bool false]]) (by simp [results, Try.results19, go_sem, o0, o1, o2, o3, o4, o5, p0, p1, p2]) rfl ⟨_, _, rfl, ⟨_, _, _, _, _, _, _, rfl, hfw, hfd⟩, ⟨_, _, _, rfl, hfb⟩, hF⟩
set_option maxRecDepth 100000 in
set_option maxHeartbeats 2000000 in
theorem rdo_inst_yes (T C : Int) (A : Option Addr) (q c : Nat) (ws : List Int) (RN n : Nat) (A0 A1 : Option Addr) (c0 c1 : Nat) (K0 K1 : List Key) (me ce a b : Int) (D : Option Addr) (m cd : Nat) (B : Option Addr) (q2 cb : Nat) (dat : List UInt8) (wd : List Int) (w : World) (hA : WordsV w A q c ws) (hd : DkK w (.agg #[.int .u64 (RN : Int), .slice A0 n c0, .slice A1 n c1]) (RN : Int) n K0 K1)
  (hB : BytesV w D m cd dat) (hwd : WordsV w B q2 cb wd) (ha : 0 ≤ a ∧ a < 18446744073709551616) (hb : 0 ≤ b ∧ b < 18446744073709551616) {mF : Nat} (hF : Fit ⟨T, C, ws, RN, n, K0, K1⟩ mF) (fl : Bool) (hne : wd.length = ws.length) :
  Calls Try.prog 19 #[.agg #[.int .i64 T, .int .i64 C, .slice A q c, .int .u64 (RN : Int), .slice A0 n c0, .slice A1 n c1], .int .i64 me, .agg #[.int .i64 13, .int .i64 ce, .int .u64 a, .int .u64 b, .slice D m cd, .slice B q2 cb], .bool fl] w (DoPost (⟨T, C, wd, RN, n, K0, K1⟩ : WldK) ResK.zero w) := by
 have hlen := hA.len
 have hlen2 := hwd.len
 have hpos : 0 < n := hF.pos
 have hn : n ≤ 64 := hF.le
 have hn6 : n ≤ 65536 := by omega
 have hR : RN < 18446744073709551616 := by have := hF.root.2; simp only at this; omega
 have hws2 : 2 ≤ ws.length := hF.ws.1
 have hws6 : ws.length ≤ 65536 := hF.ws.2
 have hm0 : ∀ x ∈ K0, x.1.length + mF ≤ 65536 := hF.k0
 have hm1 : ∀ x ∈ K1, x.1.length + mF ≤ 65536 := hF.k1
 have hs0 : ∀ x ∈ K0, x.1.length ≤ 65536 := fun x hx => by have := hm0 x hx; omega
 have hs1 : ∀ x ∈ K1, x.1.length ≤ 65536 := fun x hx => by have := hm1 x hx; omega
 clear hF
 obtain ⟨rr, hrr, hr2⟩ : ∃ rr, RN % 2 = rr ∧ rr < 2 := ⟨_, rfl, Nat.mod_lt _ (by omega)⟩
 have hri : (RN : Int) % 2 = (rr : Int) := by omega
 have hsub : IntKind.i64.wrap (1 - (rr : Int)) = 1 - (rr : Int) := by rw [IntKind.wrap_i64]; omega
 have hm : Int.tmod (RN : Int) 2 = (rr : Int) := by rw [Int.tmod_eq_emod_of_nonneg (by omega)]; omega
 have hw1 : IntKind.u64.wrap (rr : Int) = (rr : Int) := by rw [IntKind.wrap_u64]; omega
 have hw2 : IntKind.i64.wrap (rr : Int) = (rr : Int) := by rw [IntKind.wrap_i64]; omega
 try rw [hri]
 clear hrr hri
 go_enter Try.func19, Try.ntmps19
 go_upto_region 1 with (fail)
 obtain ⟨hW, hE, hG, hO, hP⟩ := boxes4 w (.cells #[.int .i64 T, .int .i64 C, .slice A q c, .int .u64 (RN : Int), .slice A0 n c0, .slice A1 n c1] 32) (.cells #[.int .i64 13, .int .i64 ce, .int .u64 a, .int .u64 b, .slice D m cd, .slice B q2 cb] 42) (.cells #[.int .i64 0, .int .i64 0, .slice none 0 0, .int .u64 0, .slice none 0 0, .slice none 0 0] 32) (.cells #[.int .u64 0, .slice none 0 0, .bool false] 51)
 generalize (((w.alloc (.cells #[.int .i64 T, .int .i64 C, .slice A q c, .int .u64 (RN : Int), .slice A0 n c0, .slice A1 n c1] 32)).alloc (.cells #[.int .i64 13, .int .i64 ce, .int .u64 a, .int .u64 b, .slice D m cd, .slice B q2 cb] 42)).alloc (.cells #[.int .i64 0, .int .i64 0, .slice none 0 0, .int .u64 0, .slice none 0 0, .slice none 0 0] 32)).alloc (.cells #[.int .u64 0, .slice none 0 0, .bool false] 51) = W at *
 have hlt : w.heap.size + 1 + 1 + 1 < W.heap.size := (Array.getElem?_eq_some_iff.1 hP).1
 have e0 : W.cell? ⟨w.heap.size, 0, none⟩ = some (.int .i64 T) := by simp [World.cell?, hE]
 have e1 : W.cell? ⟨w.heap.size, 1, none⟩ = some (.int .i64 C) := by simp [World.cell?, hE]
 have e2 : W.cell? ⟨w.heap.size, 2, none⟩ = some (.slice A q c) := by simp [World.cell?, hE]
 have e3 : W.cell? ⟨w.heap.size, 3, none⟩ = some (.int .u64 (RN : Int)) := by simp [World.cell?, hE]
 have e4 : W.cell? ⟨w.heap.size, 4, none⟩ = some (.slice A0 n c0) := by simp [World.cell?, hE]
 have e5 : W.cell? ⟨w.heap.size, 5, none⟩ = some (.slice A1 n c1) := by simp [World.cell?, hE]
 have g0 : W.cell? ⟨w.heap.size + 1, 0, none⟩ = some (.int .i64 13) := by simp [World.cell?, hG]
 have g1 : W.cell? ⟨w.heap.size + 1, 1, none⟩ = some (.int .i64 ce) := by simp [World.cell?, hG]
 have g2 : W.cell? ⟨w.heap.size + 1, 2, none⟩ = some (.int .u64 a) := by simp [World.cell?, hG]
 have g3 : W.cell? ⟨w.heap.size + 1, 3, none⟩ = some (.int .u64 b) := by simp [World.cell?, hG]
 have g4 : W.cell? ⟨w.heap.size + 1, 4, none⟩ = some (.slice D m cd) := by simp [World.cell?, hG]
 have g5 : W.cell? ⟨w.heap.size + 1, 5, none⟩ = some (.slice B q2 cb) := by simp [World.cell?, hG]
 go_upto_region 2 with (fail)
 clear hm hw1 hw2
 obtain rfl : q2 = q := by omega
 go_upto_region 30 with (fail)
 clear e0 e1 e2 e3 e4 e5 g0 g1 g2 g3 g4 g5
 clear hsub
 obtain ⟨b0, rfl, -, -, -⟩ := hwd.at (i := 0) (by omega)
 obtain ⟨i0, hi0, hz0, hz1, hz2⟩ := info_parts info_u64w
 have hbs : ∀ W : World, (Instr.buildSlice 23 0 #[]).run Try.prog W = .ok (.slice (some ⟨W.heap.size, 0, none⟩) 0 0) (W.alloc (.cells #[] 26)) := fun _ => by kernel_rfl
 have HE := Lib.hid hE
 have HG := Lib.hid hG
 have HO := Lib.hid hO
 have HP := Lib.hid hP
 have HW := Lib.hid hW
 have HD := Lib.hid (hwd.ext hW)
 have hX : ∀ wx, Ext W wx → (wx.cell? ⟨w.heap.size, 0, none⟩ = some (.int .i64 T) ∧ wx.cell? ⟨w.heap.size, 1, none⟩ = some (.int .i64 C) ∧ wx.cell? ⟨w.heap.size, 2, none⟩ = some (.slice A q2 c) ∧ wx.cell? ⟨w.heap.size, 3, none⟩ = some (.int .u64 (RN : Int)) ∧ wx.cell? ⟨w.heap.size, 4, none⟩ = some (.slice A0 n c0) ∧ wx.cell? ⟨w.heap.size, 5, none⟩ = some (.slice A1 n c1)) ∧ (wx.cell? ⟨w.heap.size + 1, 0, none⟩ = some (.int .i64 13) ∧ wx.cell? ⟨w.heap.size + 1, 1, none⟩ = some (.int .i64 ce) ∧ wx.cell? ⟨w.heap.size + 1, 2, none⟩ = some (.int .u64 a) ∧ wx.cell? ⟨w.heap.size + 1, 3, none⟩ = some (.int .u64 b) ∧ wx.cell? ⟨w.heap.size + 1, 4, none⟩ = some (.slice D m cd) ∧ wx.cell? ⟨w.heap.size + 1, 5, none⟩ = some (.slice (some b0) q2 cb)) := fun wx hx => by
  have hE := heap_ext HE.out hx
  have hG := heap_ext HG.out hx
  exact ⟨⟨by simp [World.cell?, hE], by simp [World.cell?, hE], by simp [World.cell?, hE], by simp [World.cell?, hE], by simp [World.cell?, hE], by simp [World.cell?, hE]⟩, by simp [World.cell?, hG], by simp [World.cell?, hG], by simp [World.cell?, hG], by simp [World.cell?, hG], by simp [World.cell?, hG], by simp [World.cell?, hG]⟩
 clear hE hG hO hP hW
 refine' wp_region_sure ⟨((some 144, [], none) :: (some 145, [0], none) :: (some 146, [1], none) :: (some 147, [], none) :: (some 148, [3], none) :: (some 149, [4], none) :: (some 150, [], none) :: (some 151, [], none) :: (some 152, [7], none) :: (some 153, [6, 8], none) :: (some 154, [2, 5, 9], none) :: (some 155, [0, 1, 2, 3, 4, 5, 6, 7, 8, 9, 10], none) :: (none, [11, 10, 9, 0, 1, 2, 3, 4, 5, 6, 7, 8, 9, 10], none) :: []), (0 :: 1 :: 3 :: 0 :: 8 :: 24 :: 0 :: 0 :: 128 :: 448 :: 1023 :: 2047 :: 4095 :: []), (true :: true :: true :: true :: true :: true :: false :: true :: true :: false :: false :: true :: []), [9], 26⟩ 12 246 ((0, 144) :: (1, 145) :: (2, 146) :: (3, 147) :: (4, 148) :: (5, 149) :: (6, 150) :: (7, 151) :: (8, 152) :: (9, 153) :: (10, 154) :: (11, 155) :: []) ((0, 144) :: (1, 145) :: (2, 146) :: (3, 147) :: (4, 148) :: (5, 149) :: (7, 151) :: (8, 152) :: (9, 153) :: (10, 154) :: (11, 155) :: []) (.det _ :: .det _ :: .det _ :: .det _ :: .det _ :: .det _ :: Good.of (fun v w => w.ownsRow W.heap.size 26 1 v 0 []) (fun v w w' h hx => ownsRow_ext h hx) :: .det _ :: .det _ :: Good.of (fun v w => w.ownsRow W.heap.size 26 1 v q2 (wordsOf wd)) (fun v w w' h hx => ownsRow_ext h hx) :: Good.of (fun v w => ∃ u, v = .agg #[.int .i64 T, .int .i64 C, u] ∧ w.ownsRow W.heap.size 26 1 u q2 (wordsOf wd)) (fun v w w' h hx => let ⟨u, e, ho⟩ := h; ⟨u, e, ownsRow_ext ho hx⟩) :: .det _ :: []) (by kernel_rfl) (by kernel_rfl) (by kernel_rfl) rfl (by kernel_rfl) (by kernel_rfl) rfl ?hone ?hend
 case hone =>
  intro CS frS VS hCS ha hV
  have qs4 := slot_val (t := 4) ha rfl
  simp only [List.getElem_toArray, List.getElem_cons_succ, List.getElem_cons_zero] at qs4
  have qs6 := slot_val (t := 6) ha rfl
  simp only [List.getElem_toArray, List.getElem_cons_succ, List.getElem_cons_zero] at qs6
  have HCS := Lib.hid hCS
  have HVS := Lib.hid hV
  clear ha hCS hV
  refine sure_det (js := []) (ts := [4]) (gd := none) (place_at HVS.out (k := 0) rfl) (by rw [HCS.out]; kernel_rfl) ?_ ?_
  ·intro wx hx ρ hρ hs hf; have hρc := hρ.const; have hρf := hρ.func
   obtain ⟨fx4, -⟩ := hf; rw [qs4] at fx4
   clear hs
   clear HCS HVS qs4 qs6
   refine run_plain ?_
   unfold runs
   go_simp
   exact detK.mk
  refine sure_det (js := [(0, 144)]) (ts := []) (gd := none) (place_at HVS.out (k := 1) rfl) (by rw [HCS.out]; kernel_rfl) ?_ ?_
  ·intro wx hx ρ hρ hs hf; have hρc := hρ.const; have hρf := hρ.func; obtain ⟨sn0, -⟩ := hs; rw [place_at HVS.out (k := 0) rfl] at sn0; replace sn0 : ρ (.tmp 144) = _ := sn0
   clear hf
   clear HCS HVS qs4 qs6
   refine run_plain ?_
   unfold runs
   go_simp
   exact detK.mk
  refine sure_det (js := [(1, 145)]) (ts := []) (gd := none) (place_at HVS.out (k := 2) rfl) (by rw [HCS.out]; kernel_rfl) ?_ ?_
  ·intro wx hx ρ hρ hs hf; have hρc := hρ.const; have hρf := hρ.func; obtain ⟨sn1, -⟩ := hs; rw [place_at HVS.out (k := 1) rfl] at sn1; replace sn1 : ρ (.tmp 145) = _ := sn1
   clear hf
   clear HCS HVS qs4 qs6
   refine run_plain ?_
   obtain ⟨⟨x0, x1, x2, x3, x4, x5⟩, y0, y1, y2, y3, y4, y5⟩ := hX wx hx.drawn
   unfold runs
   go_simp
   exact detK.mk
  refine sure_det (js := []) (ts := [4]) (gd := none) (place_at HVS.out (k := 3) rfl) (by rw [HCS.out]; kernel_rfl) ?_ ?_
  ·intro wx hx ρ hρ hs hf; have hρc := hρ.const; have hρf := hρ.func
   obtain ⟨fx4, -⟩ := hf; rw [qs4] at fx4
   clear hs
   clear HCS HVS qs4 qs6
   refine run_plain ?_
   unfold runs
   go_simp
   exact detK.mk
  refine sure_det (js := [(3, 147)]) (ts := []) (gd := none) (place_at HVS.out (k := 4) rfl) (by rw [HCS.out]; kernel_rfl) ?_ ?_
  ·intro wx hx ρ hρ hs hf; have hρc := hρ.const; have hρf := hρ.func; obtain ⟨sn3, -⟩ := hs; rw [place_at HVS.out (k := 3) rfl] at sn3; replace sn3 : ρ (.tmp 147) = _ := sn3
   clear hf
   clear HCS HVS qs4 qs6
   refine run_plain ?_
   unfold runs
   go_simp
   exact detK.mk
  refine sure_det (js := [(4, 148)]) (ts := []) (gd := none) (place_at HVS.out (k := 5) rfl) (by rw [HCS.out]; kernel_rfl) ?_ ?_
  ·intro wx hx ρ hρ hs hf; have hρc := hρ.const; have hρf := hρ.func; obtain ⟨sn4, -⟩ := hs; rw [place_at HVS.out (k := 4) rfl] at sn4; replace sn4 : ρ (.tmp 148) = _ := sn4
   clear hf
   clear HCS HVS qs4 qs6
   refine run_plain ?_
   obtain ⟨⟨x0, x1, x2, x3, x4, x5⟩, y0, y1, y2, y3, y4, y5⟩ := hX wx hx.drawn
   unfold runs
   go_simp
   exact detK.mk
  refine sure_op (js := []) (ts := []) (gd := none) (place_at HVS.out (k := 6) rfl) (by rw [HCS.out]; kernel_rfl) ?_ ?_
  ·intro wx hx ρ hρ hs hf; have hρc := hρ.const; have hρf := hρ.func
   clear hs
   clear hf
   clear HCS HVS qs4 qs6
   refine run_plain ?_
   refine op_buildSlice rfl (by simpa using hbs wx) ?_
   exact ⟨Ext.refl _ |>.alloc (Nat.le_refl _) _, by simp, .inr ⟨wx.heap.size, 0, #[], rfl, hx.size, heap_alloc_new wx _, Nat.le_refl _, Nat.zero_le _, by simp, by simp⟩⟩
  refine sure_det (js := []) (ts := [6]) (gd := none) (place_at HVS.out (k := 7) rfl) (by rw [HCS.out]; kernel_rfl) ?_ ?_
  ·intro wx hx ρ hρ hs hf; have hρc := hρ.const; have hρf := hρ.func
   obtain ⟨fx6, -⟩ := hf; rw [qs6] at fx6
   clear hs
   clear HCS HVS qs4 qs6
   refine run_plain ?_
   unfold runs
   go_simp
   exact detK.mk
  refine sure_det (js := [(7, 151)]) (ts := []) (gd := none) (place_at HVS.out (k := 8) rfl) (by rw [HCS.out]; kernel_rfl) ?_ ?_
  ·intro wx hx ρ hρ hs hf; have hρc := hρ.const; have hρf := hρ.func; obtain ⟨sn7, -⟩ := hs; rw [place_at HVS.out (k := 7) rfl] at sn7; replace sn7 : ρ (.tmp 151) = _ := sn7
   clear hf
   clear HCS HVS qs4 qs6
   refine run_plain ?_
   obtain ⟨⟨x0, x1, x2, x3, x4, x5⟩, y0, y1, y2, y3, y4, y5⟩ := hX wx hx.drawn
   unfold runs
   go_simp
   exact detK.mk
  refine sure_wild (js := [(6, 150), (8, 152)]) (ts := []) (gd := none) (place_at HVS.out (k := 9) rfl) (by rw [HCS.out]) (by rw [HCS.out]; kernel_rfl) ?_ ?_
  ·intro wx hx ρ hρ hs hf; have hρc := hρ.const; have hρf := hρ.func; obtain ⟨sn6, sn8, -⟩ := hs; rw [place_at HVS.out (k := 6) rfl] at sn6; replace sn6 : wx.ownsRow W.heap.size 26 1 (ρ (.tmp 150)) 0 [] := sn6; rw [place_at HVS.out (k := 8) rfl] at sn8; replace sn8 : ρ (.tmp 152) = _ := sn8
   clear hf
   clear HCS HVS qs4 qs6
   refine run_plain ?_
   obtain ⟨v', w', hr, ho, hb, hwr⟩ := run_append_own_any (P := Try.prog) (w := wx) W.heap.size 23 23 26 i0 _ 1 8 Try.underlying23 hi0 hz0 hz1 hz2 rfl (by decide) _ 0 [] sn6 (some b0) q2 cb (wordsOf wd) (by rw [wordsOf_length, hlen2]; omega) (HD.out.ext hx.drawn).cells HD.out.none0 (wordsOf_one wd) (by simp only [maxLen]; omega) (by omega) hx.size
   refine op_append rfl rfl sn8 hr ?_
   simp only [Nat.zero_add, List.nil_append] at ho
   exact ⟨⟨hb, hwr⟩, ho⟩
  refine sure_op (js := [(2, 146), (5, 149), (9, 153)]) (ts := []) (gd := none) (place_at HVS.out (k := 10) rfl) (by rw [HCS.out]; kernel_rfl) ?_ ?_
  ·intro wx hx ρ hρ hs hf; have hρc := hρ.const; have hρf := hρ.func; obtain ⟨sn2, sn5, sn9, -⟩ := hs; rw [place_at HVS.out (k := 2) rfl] at sn2; replace sn2 : ρ (.tmp 146) = _ := sn2; rw [place_at HVS.out (k := 5) rfl] at sn5; replace sn5 : ρ (.tmp 149) = _ := sn5; rw [place_at HVS.out (k := 9) rfl] at sn9; replace sn9 : wx.ownsRow W.heap.size 26 1 (ρ (.tmp 153)) q2 (wordsOf wd) := sn9
   clear hf
   clear HCS HVS qs4 qs6
   refine run_plain ?_
   have hu : ∃ A c, ρ (.tmp 153) = .slice A q2 c := (let ⟨A, c, e, _⟩ := own_form sn9; ⟨A, c, e⟩)
   obtain ⟨A5, c5, e5⟩ := hu
   unfold runs
   go_simp
   exact ⟨Ext.refl _, _, rfl, by rw [← e5]; exact sn9⟩
  refine sure_det (js := []) (ts := [4]) (gd := none) (place_at HVS.out (k := 11) rfl) (by rw [HCS.out]; kernel_rfl) ?_ ?_
  ·intro wx hx ρ hρ hs hf; have hρc := hρ.const; have hρf := hρ.func
   obtain ⟨fx4, -⟩ := hf; rw [qs4] at fx4
   clear hs
   clear HCS HVS qs4 qs6
   refine run_plain ?_
   unfold runs
   go_simp
   exact detK.mk
  exact trivial
 case hend =>
  intro xs wx hx hg
  have gk0 : xs 0 = _ := goods_get hg (i := 0) (j := 0) (d := 144) rfl
  have gk1 : xs 1 = _ := goods_get hg (i := 1) (j := 1) (d := 145) rfl
  have gk2 : xs 2 = _ := goods_get hg (i := 2) (j := 2) (d := 146) rfl
  have gk3 : xs 3 = _ := goods_get hg (i := 3) (j := 3) (d := 147) rfl
  have gk4 : xs 4 = _ := goods_get hg (i := 4) (j := 4) (d := 148) rfl
  have gk5 : xs 5 = _ := goods_get hg (i := 5) (j := 5) (d := 149) rfl
  have gk7 : xs 7 = _ := goods_get hg (i := 6) (j := 7) (d := 151) rfl
  have gk8 : xs 8 = _ := goods_get hg (i := 7) (j := 8) (d := 152) rfl
  have gk9 : wx.ownsRow W.heap.size 26 1 (xs 9) q2 (wordsOf wd) := goods_get hg (i := 8) (j := 9) (d := 153) rfl
  have gk10 : ∃ u, (xs 10) = .agg #[.int .i64 T, .int .i64 C, u] ∧ wx.ownsRow W.heap.size 26 1 u q2 (wordsOf wd) := goods_get hg (i := 9) (j := 10) (d := 154) rfl
  have gk11 : xs 11 = _ := goods_get hg (i := 10) (j := 11) (d := 155) rfl
  clear hg
  simp only [putAll, gk0, gk1, gk2, gk3, gk4, gk5, gk7, gk8, gk11]
  clear gk0 gk1 gk2 gk3 gk4 gk5 gk7 gk8 gk11
  generalize xs 6 = vx6
  generalize xs 9 = vx9 at gk9 ⊢
  generalize xs 10 = vx10 at gk10 ⊢
  clear xs
  simp only [Act.put, List.setIfInBounds_toArray, List.set_cons_zero, List.set_cons_succ, List.drop_succ_cons, List.drop_zero]
  obtain ⟨u, eu, hu⟩ := gk10
  subst eu
  have hZ : ∃ (gN cN : Nat), u = .slice (some ⟨gN, 0, none⟩) q2 cN ∧ OwnW wx W.heap.size gN cN wd := own_some hu hlen2 (by omega)
  obtain ⟨gN, cN, rfl, hown⟩ := hZ
  obtain ⟨hgN1, hgN2⟩ := hown.base
  clear gk9 hu hX
  have hE := heap_ext HE.out hx.drawn
  have hO := heap_ext HO.out hx.drawn
  have hP := heap_ext HP.out hx.drawn
  have hW := HW.out.trans hx.drawn
  have h0 : wx.cell? ⟨w.heap.size, 0, none⟩ = some (.int .i64 T) := by simp [World.cell?, hE]
  have hf0 : wx.frozen? ⟨w.heap.size, 0, none⟩ = false := by simp [World.frozen?, hE]
  have h1 : wx.cell? ⟨w.heap.size, 1, none⟩ = some (.int .i64 C) := by simp [World.cell?, hE]
  have hf1 : wx.frozen? ⟨w.heap.size, 1, none⟩ = false := by simp [World.frozen?, hE]
  have h2 : wx.cell? ⟨w.heap.size, 2, none⟩ = some (.slice A q2 c) := by simp [World.cell?, hE]
  have hf2 : wx.frozen? ⟨w.heap.size, 2, none⟩ = false := by simp [World.frozen?, hE]
  have h3 : wx.cell? ⟨w.heap.size, 3, none⟩ = some (.int .u64 (RN : Int)) := by simp [World.cell?, hE]
  have hf3 : wx.frozen? ⟨w.heap.size, 3, none⟩ = false := by simp [World.frozen?, hE]
  have h4 : wx.cell? ⟨w.heap.size, 4, none⟩ = some (.slice A0 n c0) := by simp [World.cell?, hE]
  have hf4 : wx.frozen? ⟨w.heap.size, 4, none⟩ = false := by simp [World.frozen?, hE]
  have h5 : wx.cell? ⟨w.heap.size, 5, none⟩ = some (.slice A1 n c1) := by simp [World.cell?, hE]
  have hf5 : wx.frozen? ⟨w.heap.size, 5, none⟩ = false := by simp [World.frozen?, hE]
  go_upto_region 31 with (fail)
  have hE3 : (((wx.setCell ⟨w.heap.size, 0, none⟩ (.int .i64 T)).setCell ⟨w.heap.size, 1, none⟩ (.int .i64 C)).setCell ⟨w.heap.size, 2, none⟩ (.slice (some ⟨gN, 0, none⟩) q2 cN)).heap[w.heap.size]? = some (.cells #[.int .i64 T, .int .i64 C, .slice (some ⟨gN, 0, none⟩) q2 cN, .int .u64 (RN : Int), .slice A0 n c0, .slice A1 n c1] 32 (0, 0)) := heap_setCell_at (heap_setCell_at (heap_setCell_at hE))
  have hO3 : (((wx.setCell ⟨w.heap.size, 0, none⟩ (.int .i64 T)).setCell ⟨w.heap.size, 1, none⟩ (.int .i64 C)).setCell ⟨w.heap.size, 2, none⟩ (.slice (some ⟨gN, 0, none⟩) q2 cN)).heap[w.heap.size + 1 + 1]? = some (.cells #[.int .i64 0, .int .i64 0, .slice none 0 0, .int .u64 0, .slice none 0 0, .slice none 0 0] 32 (0, 0)) := (setAll_other (g := w.heap.size) (by omega) [.int .i64 T, .int .i64 C, .slice (some ⟨gN, 0, none⟩) q2 cN] 0 wx).trans hO
  have hP3 : (((wx.setCell ⟨w.heap.size, 0, none⟩ (.int .i64 T)).setCell ⟨w.heap.size, 1, none⟩ (.int .i64 C)).setCell ⟨w.heap.size, 2, none⟩ (.slice (some ⟨gN, 0, none⟩) q2 cN)).heap[w.heap.size + 1 + 1 + 1]? = some (.cells #[.int .u64 0, .slice none 0 0, .bool false] 51 (0, 0)) := (setAll_other (g := w.heap.size) (by omega) [.int .i64 T, .int .i64 C, .slice (some ⟨gN, 0, none⟩) q2 cN] 0 wx).trans hP
  have hW3 : Ext w (((wx.setCell ⟨w.heap.size, 0, none⟩ (.int .i64 T)).setCell ⟨w.heap.size, 1, none⟩ (.int .i64 C)).setCell ⟨w.heap.size, 2, none⟩ (.slice (some ⟨gN, 0, none⟩) q2 cN)) := setAll_ext (g := w.heap.size) (vs := [.int .i64 T, .int .i64 C, .slice (some ⟨gN, 0, none⟩) q2 cN]) (i := 0) hW (Nat.le_refl _)
  have hfz : (((wx.setCell ⟨w.heap.size, 0, none⟩ (.int .i64 T)).setCell ⟨w.heap.size, 1, none⟩ (.int .i64 C)).setCell ⟨w.heap.size, 2, none⟩ (.slice (some ⟨gN, 0, none⟩) q2 cN)).heap[gN]? = wx.heap[gN]? := setAll_other (g := w.heap.size) (k := gN) (by omega) [.int .i64 T, .int .i64 C, .slice (some ⟨gN, 0, none⟩) q2 cN] 0 wx
  have hwv := (hown.kept hfz).v hwd.rng
  rw [hlen2] at hwv
  clear h0 h1 h2 h3 h4 h5 hf0 hf1 hf2 hf3 hf4 hf5 hE hO hP hW hown hfz
  generalize (((wx.setCell ⟨w.heap.size, 0, none⟩ (.int .i64 T)).setCell ⟨w.heap.size, 1, none⟩ (.int .i64 C)).setCell ⟨w.heap.size, 2, none⟩ (.slice (some ⟨gN, 0, none⟩) q2 cN)) = w4 at *
  have hE := hE3
  have hO := hO3
  have hP := hP3
  have hW := hW3
  clear hE3 hO3 hP3 hW3
  have hdk := hd.ext hW
  have hby := bytes_nil w4
  have hwl : 2 ≤ wd.length := by omega
  have e0 : w4.cell? ⟨w.heap.size, 0, none⟩ = some (.int .i64 T) := by simp [World.cell?, hE]
  have e1 : w4.cell? ⟨w.heap.size, 1, none⟩ = some (.int .i64 C) := by simp [World.cell?, hE]
  have e2 : w4.cell? ⟨w.heap.size, 2, none⟩ = some (.slice (some ⟨gN, 0, none⟩) q2 cN) := by simp [World.cell?, hE]
  have e3 : w4.cell? ⟨w.heap.size, 3, none⟩ = some (.int .u64 (RN : Int)) := by simp [World.cell?, hE]
  have e4 : w4.cell? ⟨w.heap.size, 4, none⟩ = some (.slice A0 n c0) := by simp [World.cell?, hE]
  have e5 : w4.cell? ⟨w.heap.size, 5, none⟩ = some (.slice A1 n c1) := by simp [World.cell?, hE]
  have o0 : w4.cell? ⟨w.heap.size + 1 + 1, 0, none⟩ = some (.int .i64 0) := by simp [World.cell?, hO]
  have of0 : w4.frozen? ⟨w.heap.size + 1 + 1, 0, none⟩ = false := by simp [World.frozen?, hO]
  have o1 : w4.cell? ⟨w.heap.size + 1 + 1, 1, none⟩ = some (.int .i64 0) := by simp [World.cell?, hO]
  have of1 : w4.frozen? ⟨w.heap.size + 1 + 1, 1, none⟩ = false := by simp [World.frozen?, hO]
  have o2 : w4.cell? ⟨w.heap.size + 1 + 1, 2, none⟩ = some (.slice none 0 0) := by simp [World.cell?, hO]
  have of2 : w4.frozen? ⟨w.heap.size + 1 + 1, 2, none⟩ = false := by simp [World.frozen?, hO]
  have o3 : w4.cell? ⟨w.heap.size + 1 + 1, 3, none⟩ = some (.int .u64 0) := by simp [World.cell?, hO]
  have of3 : w4.frozen? ⟨w.heap.size + 1 + 1, 3, none⟩ = false := by simp [World.frozen?, hO]
  have o4 : w4.cell? ⟨w.heap.size + 1 + 1, 4, none⟩ = some (.slice none 0 0) := by simp [World.cell?, hO]
  have of4 : w4.frozen? ⟨w.heap.size + 1 + 1, 4, none⟩ = false := by simp [World.frozen?, hO]
  have o5 : w4.cell? ⟨w.heap.size + 1 + 1, 5, none⟩ = some (.slice none 0 0) := by simp [World.cell?, hO]
  have of5 : w4.frozen? ⟨w.heap.size + 1 + 1, 5, none⟩ = false := by simp [World.frozen?, hO]
  have p0 : w4.cell? ⟨w.heap.size + 1 + 1 + 1, 0, none⟩ = some (.int .u64 0) := by simp [World.cell?, hP]
  have pf0 : w4.frozen? ⟨w.heap.size + 1 + 1 + 1, 0, none⟩ = false := by simp [World.frozen?, hP]
  have p1 : w4.cell? ⟨w.heap.size + 1 + 1 + 1, 1, none⟩ = some (.slice none 0 0) := by simp [World.cell?, hP]
  have pf1 : w4.frozen? ⟨w.heap.size + 1 + 1 + 1, 1, none⟩ = false := by simp [World.frozen?, hP]
  have p2 : w4.cell? ⟨w.heap.size + 1 + 1 + 1, 2, none⟩ = some (.bool false) := by simp [World.cell?, hP]
  have pf2 : w4.frozen? ⟨w.heap.size + 1 + 1 + 1, 2, none⟩ = false := by simp [World.frozen?, hP]
  have hPm : (setAll (w.heap.size + 1 + 1) 0 [.int .i64 T, .int .i64 C, .slice (some ⟨gN, 0, none⟩) q2 cN, .int .u64 (RN : Int), .slice A0 n c0, .slice A1 n c1] w4).heap[w.heap.size + 1 + 1 + 1]? = some (.cells #[.int .u64 0, .slice none 0 0, .bool false] 51 (0, 0)) := (setAll_other (g := w.heap.size + 1 + 1) (by omega) [.int .i64 T, .int .i64 C, .slice (some ⟨gN, 0, none⟩) q2 cN, .int .u64 (RN : Int), .slice A0 n c0, .slice A1 n c1] 0 w4).trans hP
  obtain ⟨wf, hwf⟩ : ∃ wf, wf = setAll (w.heap.size + 1 + 1 + 1) 0 [.int .u64 0, .slice none 0 0, .bool false] (setAll (w.heap.size + 1 + 1) 0 [.int .i64 T, .int .i64 C, .slice (some ⟨gN, 0, none⟩) q2 cN, .int .u64 (RN : Int), .slice A0 n c0, .slice A1 n c1] w4) := ⟨_, rfl⟩
  have hF : Ext w wf := hwf ▸ setAll_ext (g := w.heap.size + 1 + 1 + 1) (vs := [.int .u64 0, .slice none 0 0, .bool false]) (i := 0) (setAll_ext (g := w.heap.size + 1 + 1) (vs := [.int .i64 T, .int .i64 C, .slice (some ⟨gN, 0, none⟩) q2 cN, .int .u64 (RN : Int), .slice A0 n c0, .slice A1 n c1]) (i := 0) hW (by omega)) (by omega)
  have hfO : wf.heap[w.heap.size + 1 + 1]? = some (.cells #[.int .i64 T, .int .i64 C, .slice (some ⟨gN, 0, none⟩) q2 cN, .int .u64 (RN : Int), .slice A0 n c0, .slice A1 n c1] 32 (0, 0)) := hwf ▸ (setAll_other (g := w.heap.size + 1 + 1 + 1) (by omega) [.int .u64 0, .slice none 0 0, .bool false] 0 (setAll (w.heap.size + 1 + 1) 0 [.int .i64 T, .int .i64 C, .slice (some ⟨gN, 0, none⟩) q2 cN, .int .u64 (RN : Int), .slice A0 n c0, .slice A1 n c1] w4)).trans (setAll_all (vs := [.int .i64 T, .int .i64 C, .slice (some ⟨gN, 0, none⟩) q2 cN, .int .u64 (RN : Int), .slice A0 n c0, .slice A1 n c1]) hO rfl)
  have hfP : wf.heap[w.heap.size + 1 + 1 + 1]? = some (.cells #[.int .u64 0, .slice none 0 0, .bool false] 51 (0, 0)) := hwf ▸ setAll_all (vs := [.int .u64 0, .slice none 0 0, .bool false]) hPm rfl
  have hfd := (hdk.but (But.all (w.heap.size + 1 + 1) [.int .i64 T, .int .i64 C, .slice (some ⟨gN, 0, none⟩) q2 cN, .int .u64 (RN : Int), .slice A0 n c0, .slice A1 n c1] 0 w4) hO rfl).but (But.all (w.heap.size + 1 + 1 + 1) [.int .u64 0, .slice none 0 0, .bool false] 0 _) hPm rfl
  have hfb := BytesV.but (BytesV.but hby (But.all (w.heap.size + 1 + 1) [.int .i64 T, .int .i64 C, .slice (some ⟨gN, 0, none⟩) q2 cN, .int .u64 (RN : Int), .slice A0 n c0, .slice A1 n c1] 0 w4) hO rfl) (But.all (w.heap.size + 1 + 1 + 1) [.int .u64 0, .slice none 0 0, .bool false] 0 _) hPm rfl
  have hfw := WordsV.but (WordsV.but hwv hwl (But.all (w.heap.size + 1 + 1) [.int .i64 T, .int .i64 C, .slice (some ⟨gN, 0, none⟩) q2 cN, .int .u64 (RN : Int), .slice A0 n c0, .slice A1 n c1] 0 w4) hO rfl) hwl (But.all (w.heap.size + 1 + 1 + 1) [.int .u64 0, .slice none 0 0, .bool false] 0 _) hPm rfl
  rw [← hwf] at hfd hfb hfw
  simp only [setAll] at hwf
  have HWF := Lib.hid hwf
  clear hwf hE hO hP hPm hdk hby hwv hW
  go_wp2_with fail
  rw [← HWF.out]
  clear HWF e0 e1 e2 e3 e4 e5 o0 o1 o2 o3 o4 o5 of0 of1 of2 of3 of4 of5 p0 p1 p2 pf0 pf1 pf2
  have o0 : wf.cell? ⟨w.heap.size + 1 + 1, 0, none⟩ = some (.int .i64 T) := by simp [World.cell?, hfO]
  have o1 : wf.cell? ⟨w.heap.size + 1 + 1, 1, none⟩ = some (.int .i64 C) := by simp [World.cell?, hfO]
  have o2 : wf.cell? ⟨w.heap.size + 1 + 1, 2, none⟩ = some (.slice (some ⟨gN, 0, none⟩) q2 cN) := by simp [World.cell?, hfO]
  have o3 : wf.cell? ⟨w.heap.size + 1 + 1, 3, none⟩ = some (.int .u64 (RN : Int)) := by simp [World.cell?, hfO]
  have o4 : wf.cell? ⟨w.heap.size + 1 + 1, 4, none⟩ = some (.slice A0 n c0) := by simp [World.cell?, hfO]
  have o5 : wf.cell? ⟨w.heap.size + 1 + 1, 5, none⟩ = some (.slice A1 n c1) := by simp [World.cell?, hfO]
  have p0 : wf.cell? ⟨w.heap.size + 1 + 1 + 1, 0, none⟩ = some (.int .u64 0) := by simp [World.cell?, hfP]
  have p1 : wf.cell? ⟨w.heap.size + 1 + 1 + 1, 1, none⟩ = some (.slice none 0 0) := by simp [World.cell?, hfP]
  have p2 : wf.cell? ⟨w.heap.size + 1 + 1 + 1, 2, none⟩ = some (.bool false) := by simp [World.cell?, hfP]
  refine bodyPost_ret (v := .tuple #[.agg #[.int .i64 T, .int .i64 C, .slice (some ⟨gN, 0, none⟩) q2 cN, .int .u64 (RN : Int), .slice A0 n c0, .slice A1 n c1], .agg #[.int .u64 0, .slice none 0 0, .bool false]]) (by simp [results, Try.results19, go_sem, o0, o1, o2, o3, o4, o5, p0, p1, p2]) rfl ⟨_, _, rfl, ⟨_, _, _, _, _, _, _, rfl, hfw, hfd⟩, ⟨_, _, _, rfl, hfb⟩, hF⟩
set_option maxRecDepth 100000 in
set_option maxHeartbeats 2000000 in
theorem rdo_word_no (T C : Int) (A : Option Addr) (q c : Nat) (ws : List Int) (RN n : Nat) (A0 A1 : Option Addr) (c0 c1 : Nat) (K0 K1 : List Key) (me k ce a b : Int) (D : Option Addr) (m cd : Nat) (B : Option Addr) (q2 cb : Nat) (dat : List UInt8) (wd : List Int) (w : World) (hA : WordsV w A q c ws) (hd : DkK w (.agg #[.int .u64 (RN : Int), .slice A0 n c0, .slice A1 n c1]) (RN : Int) n K0 K1)
  (hB : BytesV w D m cd dat) (hwd : WordsV w B q2 cb wd) (ha : 0 ≤ a ∧ a < 18446744073709551616) (hb : 0 ≤ b ∧ b < 18446744073709551616) {mF : Nat} (hF : Fit ⟨T, C, ws, RN, n, K0, K1⟩ mF) (fl : Bool) (hdk0 : diskKind k = false) (h13 : ¬ k = 13) (hin : inW ws.length ⟨k, ce, a, b, dat, wd⟩ = false) :
  Calls Try.prog 19 #[.agg #[.int .i64 T, .int .i64 C, .slice A q c, .int .u64 (RN : Int), .slice A0 n c0, .slice A1 n c1], .int .i64 me, .agg #[.int .i64 k, .int .i64 ce, .int .u64 a, .int .u64 b, .slice D m cd, .slice B q2 cb], .bool fl] w (DoPost (⟨T, C, ws, RN, n, K0, K1⟩ : WldK) ResK.zero w) := by
 have hlen := hA.len
 have hlen2 := hwd.len
 have hpos : 0 < n := hF.pos
 have hn : n ≤ 64 := hF.le
 have hn6 : n ≤ 65536 := by omega
 have hR : RN < 18446744073709551616 := by have := hF.root.2; simp only at this; omega
 have hws2 : 2 ≤ ws.length := hF.ws.1
 have hws6 : ws.length ≤ 65536 := hF.ws.2
 have hm0 : ∀ x ∈ K0, x.1.length + mF ≤ 65536 := hF.k0
 have hm1 : ∀ x ∈ K1, x.1.length + mF ≤ 65536 := hF.k1
 have hs0 : ∀ x ∈ K0, x.1.length ≤ 65536 := fun x hx => by have := hm0 x hx; omega
 have hs1 : ∀ x ∈ K1, x.1.length ≤ 65536 := fun x hx => by have := hm1 x hx; omega
 clear hF
 obtain ⟨rr, hrr, hr2⟩ : ∃ rr, RN % 2 = rr ∧ rr < 2 := ⟨_, rfl, Nat.mod_lt _ (by omega)⟩
 have hri : (RN : Int) % 2 = (rr : Int) := by omega
 have hsub : IntKind.i64.wrap (1 - (rr : Int)) = 1 - (rr : Int) := by rw [IntKind.wrap_i64]; omega
 have hm : Int.tmod (RN : Int) 2 = (rr : Int) := by rw [Int.tmod_eq_emod_of_nonneg (by omega)]; omega
 have hw1 : IntKind.u64.wrap (rr : Int) = (rr : Int) := by rw [IntKind.wrap_u64]; omega
 have hw2 : IntKind.i64.wrap (rr : Int) = (rr : Int) := by rw [IntKind.wrap_i64]; omega
 try rw [hri]
 clear hrr hri
 go_enter Try.func19, Try.ntmps19
 go_upto_region 1 with (fail)
 obtain ⟨hW, hE, hG, hO, hP⟩ := boxes4 w (.cells #[.int .i64 T, .int .i64 C, .slice A q c, .int .u64 (RN : Int), .slice A0 n c0, .slice A1 n c1] 32) (.cells #[.int .i64 k, .int .i64 ce, .int .u64 a, .int .u64 b, .slice D m cd, .slice B q2 cb] 42) (.cells #[.int .i64 0, .int .i64 0, .slice none 0 0, .int .u64 0, .slice none 0 0, .slice none 0 0] 32) (.cells #[.int .u64 0, .slice none 0 0, .bool false] 51)
 generalize (((w.alloc (.cells #[.int .i64 T, .int .i64 C, .slice A q c, .int .u64 (RN : Int), .slice A0 n c0, .slice A1 n c1] 32)).alloc (.cells #[.int .i64 k, .int .i64 ce, .int .u64 a, .int .u64 b, .slice D m cd, .slice B q2 cb] 42)).alloc (.cells #[.int .i64 0, .int .i64 0, .slice none 0 0, .int .u64 0, .slice none 0 0, .slice none 0 0] 32)).alloc (.cells #[.int .u64 0, .slice none 0 0, .bool false] 51) = W at *
 have hlt : w.heap.size + 1 + 1 + 1 < W.heap.size := (Array.getElem?_eq_some_iff.1 hP).1
 have e0 : W.cell? ⟨w.heap.size, 0, none⟩ = some (.int .i64 T) := by simp [World.cell?, hE]
 have e1 : W.cell? ⟨w.heap.size, 1, none⟩ = some (.int .i64 C) := by simp [World.cell?, hE]
 have e2 : W.cell? ⟨w.heap.size, 2, none⟩ = some (.slice A q c) := by simp [World.cell?, hE]
 have e3 : W.cell? ⟨w.heap.size, 3, none⟩ = some (.int .u64 (RN : Int)) := by simp [World.cell?, hE]
 have e4 : W.cell? ⟨w.heap.size, 4, none⟩ = some (.slice A0 n c0) := by simp [World.cell?, hE]
 have e5 : W.cell? ⟨w.heap.size, 5, none⟩ = some (.slice A1 n c1) := by simp [World.cell?, hE]
 have g0 : W.cell? ⟨w.heap.size + 1, 0, none⟩ = some (.int .i64 k) := by simp [World.cell?, hG]
 have g1 : W.cell? ⟨w.heap.size + 1, 1, none⟩ = some (.int .i64 ce) := by simp [World.cell?, hG]
 have g2 : W.cell? ⟨w.heap.size + 1, 2, none⟩ = some (.int .u64 a) := by simp [World.cell?, hG]
 have g3 : W.cell? ⟨w.heap.size + 1, 3, none⟩ = some (.int .u64 b) := by simp [World.cell?, hG]
 have g4 : W.cell? ⟨w.heap.size + 1, 4, none⟩ = some (.slice D m cd) := by simp [World.cell?, hG]
 have g5 : W.cell? ⟨w.heap.size + 1, 5, none⟩ = some (.slice B q2 cb) := by simp [World.cell?, hG]
 go_upto_region 2 with (fail)
 clear hm hw1 hw2
 have hk : ¬ k = 5 ∧ ¬ k = 6 ∧ ¬ k = 7 ∧ ¬ k = 8 ∧ ¬ k = 9 ∧ ¬ k = 10 ∧ ¬ k = 11 ∧ ¬ k = 12 ∧ ¬ k = 13 := by refine ⟨?_, ?_, ?_, ?_, ?_, ?_, ?_, ?_, h13⟩ <;> (intro e; subst e; simp [diskKind] at hdk0)
 have hko : ¬ 5 ≤ k ∨ (5 ≤ k ∧ ¬ k ≤ 12) := by
  rcases Decidable.em (5 ≤ k) with h | h
  ·exact .inr ⟨h, fun h2 => by simp [diskKind, h, h2] at hdk0⟩
  ·exact .inl h
 obtain ⟨k5, k6, k7, k8, k9, k10, k11, k12, k13⟩ := hk
 have hc : (k < 0) ∨ (¬ k < 0 ∧ 4 < k) ∨ (¬ k < 0 ∧ ¬ 4 < k ∧ ce < 0) ∨ (¬ k < 0 ∧ ¬ 4 < k ∧ ¬ ce < 0 ∧ (q : Int) ≤ ce) := by
  by_cases h1 : k < 0
  ·exact .inl h1
  by_cases h2 : 4 < k
  ·exact .inr (.inl ⟨h1, h2⟩)
  by_cases h3 : ce < 0
  ·exact .inr (.inr (.inl ⟨h1, h2, h3⟩))
  refine .inr (.inr (.inr ⟨h1, h2, h3, ?_⟩))
  have h4 : ¬ inW ws.length ⟨k, ce, a, b, dat, wd⟩ = true := by rw [hin]; simp
  by_cases h5 : ce < (q : Int)
  ·exact absurd (inW_iff.2 ⟨by simp only; omega, by simp only; omega, by simp only; omega, by simp only; omega⟩) h4
  ·omega
 have h33 := hc
 clear hin
 clear h33
 rcases hc with h1 | ⟨h1, h2⟩ | ⟨h1, h2, h3⟩ | ⟨h1, h2, h3, h4⟩
 ·have h0 : ¬ 5 ≤ k := by omega
  clear hko
  go_upto_region 33 with (fail)
  clear e0 e1 e2 e3 e4 e5 g0 g1 g2 g3 g4 g5
  have hdk := hd.ext hW
  have hwv := hA.ext hW
  have hby := bytes_nil W
  have hwl := hws2
  have e0 : W.cell? ⟨w.heap.size, 0, none⟩ = some (.int .i64 T) := by simp [World.cell?, hE]
  have e1 : W.cell? ⟨w.heap.size, 1, none⟩ = some (.int .i64 C) := by simp [World.cell?, hE]
  have e2 : W.cell? ⟨w.heap.size, 2, none⟩ = some (.slice A q c) := by simp [World.cell?, hE]
  have e3 : W.cell? ⟨w.heap.size, 3, none⟩ = some (.int .u64 (RN : Int)) := by simp [World.cell?, hE]
  have e4 : W.cell? ⟨w.heap.size, 4, none⟩ = some (.slice A0 n c0) := by simp [World.cell?, hE]
  have e5 : W.cell? ⟨w.heap.size, 5, none⟩ = some (.slice A1 n c1) := by simp [World.cell?, hE]
  have o0 : W.cell? ⟨w.heap.size + 1 + 1, 0, none⟩ = some (.int .i64 0) := by simp [World.cell?, hO]
  have of0 : W.frozen? ⟨w.heap.size + 1 + 1, 0, none⟩ = false := by simp [World.frozen?, hO]
  have o1 : W.cell? ⟨w.heap.size + 1 + 1, 1, none⟩ = some (.int .i64 0) := by simp [World.cell?, hO]
  have of1 : W.frozen? ⟨w.heap.size + 1 + 1, 1, none⟩ = false := by simp [World.frozen?, hO]
  have o2 : W.cell? ⟨w.heap.size + 1 + 1, 2, none⟩ = some (.slice none 0 0) := by simp [World.cell?, hO]
  have of2 : W.frozen? ⟨w.heap.size + 1 + 1, 2, none⟩ = false := by simp [World.frozen?, hO]
  have o3 : W.cell? ⟨w.heap.size + 1 + 1, 3, none⟩ = some (.int .u64 0) := by simp [World.cell?, hO]
  have of3 : W.frozen? ⟨w.heap.size + 1 + 1, 3, none⟩ = false := by simp [World.frozen?, hO]
  have o4 : W.cell? ⟨w.heap.size + 1 + 1, 4, none⟩ = some (.slice none 0 0) := by simp [World.cell?, hO]
  have of4 : W.frozen? ⟨w.heap.size + 1 + 1, 4, none⟩ = false := by simp [World.frozen?, hO]
  have o5 : W.cell? ⟨w.heap.size + 1 + 1, 5, none⟩ = some (.slice none 0 0) := by simp [World.cell?, hO]
  have of5 : W.frozen? ⟨w.heap.size + 1 + 1, 5, none⟩ = false := by simp [World.frozen?, hO]
  have p0 : W.cell? ⟨w.heap.size + 1 + 1 + 1, 0, none⟩ = some (.int .u64 0) := by simp [World.cell?, hP]
  have pf0 : W.frozen? ⟨w.heap.size + 1 + 1 + 1, 0, none⟩ = false := by simp [World.frozen?, hP]
  have p1 : W.cell? ⟨w.heap.size + 1 + 1 + 1, 1, none⟩ = some (.slice none 0 0) := by simp [World.cell?, hP]
  have pf1 : W.frozen? ⟨w.heap.size + 1 + 1 + 1, 1, none⟩ = false := by simp [World.frozen?, hP]
  have p2 : W.cell? ⟨w.heap.size + 1 + 1 + 1, 2, none⟩ = some (.bool false) := by simp [World.cell?, hP]
  have pf2 : W.frozen? ⟨w.heap.size + 1 + 1 + 1, 2, none⟩ = false := by simp [World.frozen?, hP]
  have hPm : (setAll (w.heap.size + 1 + 1) 0 [.int .i64 T, .int .i64 C, .slice A q c, .int .u64 (RN : Int), .slice A0 n c0, .slice A1 n c1] W).heap[w.heap.size + 1 + 1 + 1]? = some (.cells #[.int .u64 0, .slice none 0 0, .bool false] 51 (0, 0)) := (setAll_other (g := w.heap.size + 1 + 1) (by omega) [.int .i64 T, .int .i64 C, .slice A q c, .int .u64 (RN : Int), .slice A0 n c0, .slice A1 n c1] 0 W).trans hP
  obtain ⟨wf, hwf⟩ : ∃ wf, wf = setAll (w.heap.size + 1 + 1 + 1) 0 [.int .u64 0, .slice none 0 0, .bool false] (setAll (w.heap.size + 1 + 1) 0 [.int .i64 T, .int .i64 C, .slice A q c, .int .u64 (RN : Int), .slice A0 n c0, .slice A1 n c1] W) := ⟨_, rfl⟩
  have hF : Ext w wf := hwf ▸ setAll_ext (g := w.heap.size + 1 + 1 + 1) (vs := [.int .u64 0, .slice none 0 0, .bool false]) (i := 0) (setAll_ext (g := w.heap.size + 1 + 1) (vs := [.int .i64 T, .int .i64 C, .slice A q c, .int .u64 (RN : Int), .slice A0 n c0, .slice A1 n c1]) (i := 0) hW (by omega)) (by omega)
  have hfO : wf.heap[w.heap.size + 1 + 1]? = some (.cells #[.int .i64 T, .int .i64 C, .slice A q c, .int .u64 (RN : Int), .slice A0 n c0, .slice A1 n c1] 32 (0, 0)) := hwf ▸ (setAll_other (g := w.heap.size + 1 + 1 + 1) (by omega) [.int .u64 0, .slice none 0 0, .bool false] 0 (setAll (w.heap.size + 1 + 1) 0 [.int .i64 T, .int .i64 C, .slice A q c, .int .u64 (RN : Int), .slice A0 n c0, .slice A1 n c1] W)).trans (setAll_all (vs := [.int .i64 T, .int .i64 C, .slice A q c, .int .u64 (RN : Int), .slice A0 n c0, .slice A1 n c1]) hO rfl)
  have hfP : wf.heap[w.heap.size + 1 + 1 + 1]? = some (.cells #[.int .u64 0, .slice none 0 0, .bool false] 51 (0, 0)) := hwf ▸ setAll_all (vs := [.int .u64 0, .slice none 0 0, .bool false]) hPm rfl
  have hfd := (hdk.but (But.all (w.heap.size + 1 + 1) [.int .i64 T, .int .i64 C, .slice A q c, .int .u64 (RN : Int), .slice A0 n c0, .slice A1 n c1] 0 W) hO rfl).but (But.all (w.heap.size + 1 + 1 + 1) [.int .u64 0, .slice none 0 0, .bool false] 0 _) hPm rfl
  have hfb := BytesV.but (BytesV.but hby (But.all (w.heap.size + 1 + 1) [.int .i64 T, .int .i64 C, .slice A q c, .int .u64 (RN : Int), .slice A0 n c0, .slice A1 n c1] 0 W) hO rfl) (But.all (w.heap.size + 1 + 1 + 1) [.int .u64 0, .slice none 0 0, .bool false] 0 _) hPm rfl
  have hfw := WordsV.but (WordsV.but hwv hwl (But.all (w.heap.size + 1 + 1) [.int .i64 T, .int .i64 C, .slice A q c, .int .u64 (RN : Int), .slice A0 n c0, .slice A1 n c1] 0 W) hO rfl) hwl (But.all (w.heap.size + 1 + 1 + 1) [.int .u64 0, .slice none 0 0, .bool false] 0 _) hPm rfl
  rw [← hwf] at hfd hfb hfw
  simp only [setAll] at hwf
  have HWF := Lib.hid hwf
  clear hwf hE hO hP hPm hdk hby hwv hW
  go_wp2_with fail
  rw [← HWF.out]
  clear HWF e0 e1 e2 e3 e4 e5 o0 o1 o2 o3 o4 o5 of0 of1 of2 of3 of4 of5 p0 p1 p2 pf0 pf1 pf2
  have o0 : wf.cell? ⟨w.heap.size + 1 + 1, 0, none⟩ = some (.int .i64 T) := by simp [World.cell?, hfO]
  have o1 : wf.cell? ⟨w.heap.size + 1 + 1, 1, none⟩ = some (.int .i64 C) := by simp [World.cell?, hfO]
  have o2 : wf.cell? ⟨w.heap.size + 1 + 1, 2, none⟩ = some (.slice A q c) := by simp [World.cell?, hfO]
  have o3 : wf.cell? ⟨w.heap.size + 1 + 1, 3, none⟩ = some (.int .u64 (RN : Int)) := by simp [World.cell?, hfO]
  have o4 : wf.cell? ⟨w.heap.size + 1 + 1, 4, none⟩ = some (.slice A0 n c0) := by simp [World.cell?, hfO]
  have o5 : wf.cell? ⟨w.heap.size + 1 + 1, 5, none⟩ = some (.slice A1 n c1) := by simp [World.cell?, hfO]
  have p0 : wf.cell? ⟨w.heap.size + 1 + 1 + 1, 0, none⟩ = some (.int .u64 0) := by simp [World.cell?, hfP]
  have p1 : wf.cell? ⟨w.heap.size + 1 + 1 + 1, 1, none⟩ = some (.slice none 0 0) := by simp [World.cell?, hfP]
  have p2 : wf.cell? ⟨w.heap.size + 1 + 1 + 1, 2, none⟩ = some (.bool false) := by simp [World.cell?, hfP]
  refine bodyPost_ret (v := .tuple #[.agg #[.int .i64 T, .int .i64 C, .slice A q c, .int .u64 (RN : Int), .slice A0 n c0, .slice A1 n c1], .agg #[.int .u64 0, .slice none 0 0, .bool false]]) (by simp [results, Try.results19, go_sem, o0, o1, o2, o3, o4, o5, p0, p1, p2]) rfl ⟨_, _, rfl, ⟨_, _, _, _, _, _, _, rfl, hfw, hfd⟩, ⟨_, _, _, rfl, hfb⟩, hF⟩
 ·rcases hko with h0 | ⟨h0, h00⟩
  ·omega
  ·go_upto_region 33 with (fail)
   clear e0 e1 e2 e3 e4 e5 g0 g1 g2 g3 g4 g5
   have hdk := hd.ext hW
   have hwv := hA.ext hW
   have hby := bytes_nil W
   have hwl := hws2
   have e0 : W.cell? ⟨w.heap.size, 0, none⟩ = some (.int .i64 T) := by simp [World.cell?, hE]
   have e1 : W.cell? ⟨w.heap.size, 1, none⟩ = some (.int .i64 C) := by simp [World.cell?, hE]
   have e2 : W.cell? ⟨w.heap.size, 2, none⟩ = some (.slice A q c) := by simp [World.cell?, hE]
   have e3 : W.cell? ⟨w.heap.size, 3, none⟩ = some (.int .u64 (RN : Int)) := by simp [World.cell?, hE]
   have e4 : W.cell? ⟨w.heap.size, 4, none⟩ = some (.slice A0 n c0) := by simp [World.cell?, hE]
   have e5 : W.cell? ⟨w.heap.size, 5, none⟩ = some (.slice A1 n c1) := by simp [World.cell?, hE]
   have o0 : W.cell? ⟨w.heap.size + 1 + 1, 0, none⟩ = some (.int .i64 0) := by simp [World.cell?, hO]
   have of0 : W.frozen? ⟨w.heap.size + 1 + 1, 0, none⟩ = false := by simp [World.frozen?, hO]
   have o1 : W.cell? ⟨w.heap.size + 1 + 1, 1, none⟩ = some (.int .i64 0) := by simp [World.cell?, hO]
   have of1 : W.frozen? ⟨w.heap.size + 1 + 1, 1, none⟩ = false := by simp [World.frozen?, hO]
   have o2 : W.cell? ⟨w.heap.size + 1 + 1, 2, none⟩ = some (.slice none 0 0) := by simp [World.cell?, hO]
   have of2 : W.frozen? ⟨w.heap.size + 1 + 1, 2, none⟩ = false := by simp [World.frozen?, hO]
   have o3 : W.cell? ⟨w.heap.size + 1 + 1, 3, none⟩ = some (.int .u64 0) := by simp [World.cell?, hO]
   have of3 : W.frozen? ⟨w.heap.size + 1 + 1, 3, none⟩ = false := by simp [World.frozen?, hO]
   have o4 : W.cell? ⟨w.heap.size + 1 + 1, 4, none⟩ = some (.slice none 0 0) := by simp [World.cell?, hO]
   have of4 : W.frozen? ⟨w.heap.size + 1 + 1, 4, none⟩ = false := by simp [World.frozen?, hO]
   have o5 : W.cell? ⟨w.heap.size + 1 + 1, 5, none⟩ = some (.slice none 0 0) := by simp [World.cell?, hO]
   have of5 : W.frozen? ⟨w.heap.size + 1 + 1, 5, none⟩ = false := by simp [World.frozen?, hO]
   have p0 : W.cell? ⟨w.heap.size + 1 + 1 + 1, 0, none⟩ = some (.int .u64 0) := by simp [World.cell?, hP]
   have pf0 : W.frozen? ⟨w.heap.size + 1 + 1 + 1, 0, none⟩ = false := by simp [World.frozen?, hP]
   have p1 : W.cell? ⟨w.heap.size + 1 + 1 + 1, 1, none⟩ = some (.slice none 0 0) := by simp [World.cell?, hP]
   have pf1 : W.frozen? ⟨w.heap.size + 1 + 1 + 1, 1, none⟩ = false := by simp [World.frozen?, hP]
   have p2 : W.cell? ⟨w.heap.size + 1 + 1 + 1, 2, none⟩ = some (.bool false) := by simp [World.cell?, hP]
   have pf2 : W.frozen? ⟨w.heap.size + 1 + 1 + 1, 2, none⟩ = false := by simp [World.frozen?, hP]
   have hPm : (setAll (w.heap.size + 1 + 1) 0 [.int .i64 T, .int .i64 C, .slice A q c, .int .u64 (RN : Int), .slice A0 n c0, .slice A1 n c1] W).heap[w.heap.size + 1 + 1 + 1]? = some (.cells #[.int .u64 0, .slice none 0 0, .bool false] 51 (0, 0)) := (setAll_other (g := w.heap.size + 1 + 1) (by omega) [.int .i64 T, .int .i64 C, .slice A q c, .int .u64 (RN : Int), .slice A0 n c0, .slice A1 n c1] 0 W).trans hP
   obtain ⟨wf, hwf⟩ : ∃ wf, wf = setAll (w.heap.size + 1 + 1 + 1) 0 [.int .u64 0, .slice none 0 0, .bool false] (setAll (w.heap.size + 1 + 1) 0 [.int .i64 T, .int .i64 C, .slice A q c, .int .u64 (RN : Int), .slice A0 n c0, .slice A1 n c1] W) := ⟨_, rfl⟩
   have hF : Ext w wf := hwf ▸ setAll_ext (g := w.heap.size + 1 + 1 + 1) (vs := [.int .u64 0, .slice none 0 0, .bool false]) (i := 0) (setAll_ext (g := w.heap.size + 1 + 1) (vs := [.int .i64 T, .int .i64 C, .slice A q c, .int .u64 (RN : Int), .slice A0 n c0, .slice A1 n c1]) (i := 0) hW (by omega)) (by omega)
   have hfO : wf.heap[w.heap.size + 1 + 1]? = some (.cells #[.int .i64 T, .int .i64 C, .slice A q c, .int .u64 (RN : Int), .slice A0 n c0, .slice A1 n c1] 32 (0, 0)) := hwf ▸ (setAll_other (g := w.heap.size + 1 + 1 + 1) (by omega) [.int .u64 0, .slice none 0 0, .bool false] 0 (setAll (w.heap.size + 1 + 1) 0 [.int .i64 T, .int .i64 C, .slice A q c, .int .u64 (RN : Int), .slice A0 n c0, .slice A1 n c1] W)).trans (setAll_all (vs := [.int .i64 T, .int .i64 C, .slice A q c, .int .u64 (RN : Int), .slice A0 n c0, .slice A1 n c1]) hO rfl)
   have hfP : wf.heap[w.heap.size + 1 + 1 + 1]? = some (.cells #[.int .u64 0, .slice none 0 0, .bool false] 51 (0, 0)) := hwf ▸ setAll_all (vs := [.int .u64 0, .slice none 0 0, .bool false]) hPm rfl
   have hfd := (hdk.but (But.all (w.heap.size + 1 + 1) [.int .i64 T, .int .i64 C, .slice A q c, .int .u64 (RN : Int), .slice A0 n c0, .slice A1 n c1] 0 W) hO rfl).but (But.all (w.heap.size + 1 + 1 + 1) [.int .u64 0, .slice none 0 0, .bool false] 0 _) hPm rfl
   have hfb := BytesV.but (BytesV.but hby (But.all (w.heap.size + 1 + 1) [.int .i64 T, .int .i64 C, .slice A q c, .int .u64 (RN : Int), .slice A0 n c0, .slice A1 n c1] 0 W) hO rfl) (But.all (w.heap.size + 1 + 1 + 1) [.int .u64 0, .slice none 0 0, .bool false] 0 _) hPm rfl
   have hfw := WordsV.but (WordsV.but hwv hwl (But.all (w.heap.size + 1 + 1) [.int .i64 T, .int .i64 C, .slice A q c, .int .u64 (RN : Int), .slice A0 n c0, .slice A1 n c1] 0 W) hO rfl) hwl (But.all (w.heap.size + 1 + 1 + 1) [.int .u64 0, .slice none 0 0, .bool false] 0 _) hPm rfl
   rw [← hwf] at hfd hfb hfw
   simp only [setAll] at hwf
   have HWF := Lib.hid hwf
   clear hwf hE hO hP hPm hdk hby hwv hW
   go_wp2_with fail
   rw [← HWF.out]
   clear HWF e0 e1 e2 e3 e4 e5 o0 o1 o2 o3 o4 o5 of0 of1 of2 of3 of4 of5 p0 p1 p2 pf0 pf1 pf2
   have o0 : wf.cell? ⟨w.heap.size + 1 + 1, 0, none⟩ = some (.int .i64 T) := by simp [World.cell?, hfO]
   have o1 : wf.cell? ⟨w.heap.size + 1 + 1, 1, none⟩ = some (.int .i64 C) := by simp [World.cell?, hfO]
   have o2 : wf.cell? ⟨w.heap.size + 1 + 1, 2, none⟩ = some (.slice A q c) := by simp [World.cell?, hfO]
   have o3 : wf.cell? ⟨w.heap.size + 1 + 1, 3, none⟩ = some (.int .u64 (RN : Int)) := by simp [World.cell?, hfO]
   have o4 : wf.cell? ⟨w.heap.size + 1 + 1, 4, none⟩ = some (.slice A0 n c0) := by simp [World.cell?, hfO]
   have o5 : wf.cell? ⟨w.heap.size + 1 + 1, 5, none⟩ = some (.slice A1 n c1) := by simp [World.cell?, hfO]
   have p0 : wf.cell? ⟨w.heap.size + 1 + 1 + 1, 0, none⟩ = some (.int .u64 0) := by simp [World.cell?, hfP]
   have p1 : wf.cell? ⟨w.heap.size + 1 + 1 + 1, 1, none⟩ = some (.slice none 0 0) := by simp [World.cell?, hfP]
   have p2 : wf.cell? ⟨w.heap.size + 1 + 1 + 1, 2, none⟩ = some (.bool false) := by simp [World.cell?, hfP]
   refine bodyPost_ret (v := .tuple #[.agg #[.int .i64 T, .int .i64 C, .slice A q c, .int .u64 (RN : Int), .slice A0 n c0, .slice A1 n c1], .agg #[.int .u64 0, .slice none 0 0, .bool false]]) (by simp [results, Try.results19, go_sem, o0, o1, o2, o3, o4, o5, p0, p1, p2]) rfl ⟨_, _, rfl, ⟨_, _, _, _, _, _, _, rfl, hfw, hfd⟩, ⟨_, _, _, rfl, hfb⟩, hF⟩
 ·have h0 : ¬ 5 ≤ k := by omega
  clear hko
  go_upto_region 33 with (fail)
  clear e0 e1 e2 e3 e4 e5 g0 g1 g2 g3 g4 g5
  have hdk := hd.ext hW
  have hwv := hA.ext hW
  have hby := bytes_nil W
  have hwl := hws2
  have e0 : W.cell? ⟨w.heap.size, 0, none⟩ = some (.int .i64 T) := by simp [World.cell?, hE]
  have e1 : W.cell? ⟨w.heap.size, 1, none⟩ = some (.int .i64 C) := by simp [World.cell?, hE]
  have e2 : W.cell? ⟨w.heap.size, 2, none⟩ = some (.slice A q c) := by simp [World.cell?, hE]
  have e3 : W.cell? ⟨w.heap.size, 3, none⟩ = some (.int .u64 (RN : Int)) := by simp [World.cell?, hE]
  have e4 : W.cell? ⟨w.heap.size, 4, none⟩ = some (.slice A0 n c0) := by simp [World.cell?, hE]
  have e5 : W.cell? ⟨w.heap.size, 5, none⟩ = some (.slice A1 n c1) := by simp [World.cell?, hE]
  have o0 : W.cell? ⟨w.heap.size + 1 + 1, 0, none⟩ = some (.int .i64 0) := by simp [World.cell?, hO]
  have of0 : W.frozen? ⟨w.heap.size + 1 + 1, 0, none⟩ = false := by simp [World.frozen?, hO]
  have o1 : W.cell? ⟨w.heap.size + 1 + 1, 1, none⟩ = some (.int .i64 0) := by simp [World.cell?, hO]
  have of1 : W.frozen? ⟨w.heap.size + 1 + 1, 1, none⟩ = false := by simp [World.frozen?, hO]
  have o2 : W.cell? ⟨w.heap.size + 1 + 1, 2, none⟩ = some (.slice none 0 0) := by simp [World.cell?, hO]
  have of2 : W.frozen? ⟨w.heap.size + 1 + 1, 2, none⟩ = false := by simp [World.frozen?, hO]
  have o3 : W.cell? ⟨w.heap.size + 1 + 1, 3, none⟩ = some (.int .u64 0) := by simp [World.cell?, hO]
  have of3 : W.frozen? ⟨w.heap.size + 1 + 1, 3, none⟩ = false := by simp [World.frozen?, hO]
  have o4 : W.cell? ⟨w.heap.size + 1 + 1, 4, none⟩ = some (.slice none 0 0) := by simp [World.cell?, hO]
  have of4 : W.frozen? ⟨w.heap.size + 1 + 1, 4, none⟩ = false := by simp [World.frozen?, hO]
  have o5 : W.cell? ⟨w.heap.size + 1 + 1, 5, none⟩ = some (.slice none 0 0) := by simp [World.cell?, hO]
  have of5 : W.frozen? ⟨w.heap.size + 1 + 1, 5, none⟩ = false := by simp [World.frozen?, hO]
  have p0 : W.cell? ⟨w.heap.size + 1 + 1 + 1, 0, none⟩ = some (.int .u64 0) := by simp [World.cell?, hP]
  have pf0 : W.frozen? ⟨w.heap.size + 1 + 1 + 1, 0, none⟩ = false := by simp [World.frozen?, hP]
  have p1 : W.cell? ⟨w.heap.size + 1 + 1 + 1, 1, none⟩ = some (.slice none 0 0) := by simp [World.cell?, hP]
  have pf1 : W.frozen? ⟨w.heap.size + 1 + 1 + 1, 1, none⟩ = false := by simp [World.frozen?, hP]
  have p2 : W.cell? ⟨w.heap.size + 1 + 1 + 1, 2, none⟩ = some (.bool false) := by simp [World.cell?, hP]
  have pf2 : W.frozen? ⟨w.heap.size + 1 + 1 + 1, 2, none⟩ = false := by simp [World.frozen?, hP]
  have hPm : (setAll (w.heap.size + 1 + 1) 0 [.int .i64 T, .int .i64 C, .slice A q c, .int .u64 (RN : Int), .slice A0 n c0, .slice A1 n c1] W).heap[w.heap.size + 1 + 1 + 1]? = some (.cells #[.int .u64 0, .slice none 0 0, .bool false] 51 (0, 0)) := (setAll_other (g := w.heap.size + 1 + 1) (by omega) [.int .i64 T, .int .i64 C, .slice A q c, .int .u64 (RN : Int), .slice A0 n c0, .slice A1 n c1] 0 W).trans hP
  obtain ⟨wf, hwf⟩ : ∃ wf, wf = setAll (w.heap.size + 1 + 1 + 1) 0 [.int .u64 0, .slice none 0 0, .bool false] (setAll (w.heap.size + 1 + 1) 0 [.int .i64 T, .int .i64 C, .slice A q c, .int .u64 (RN : Int), .slice A0 n c0, .slice A1 n c1] W) := ⟨_, rfl⟩
  have hF : Ext w wf := hwf ▸ setAll_ext (g := w.heap.size + 1 + 1 + 1) (vs := [.int .u64 0, .slice none 0 0, .bool false]) (i := 0) (setAll_ext (g := w.heap.size + 1 + 1) (vs := [.int .i64 T, .int .i64 C, .slice A q c, .int .u64 (RN : Int), .slice A0 n c0, .slice A1 n c1]) (i := 0) hW (by omega)) (by omega)
  have hfO : wf.heap[w.heap.size + 1 + 1]? = some (.cells #[.int .i64 T, .int .i64 C, .slice A q c, .int .u64 (RN : Int), .slice A0 n c0, .slice A1 n c1] 32 (0, 0)) := hwf ▸ (setAll_other (g := w.heap.size + 1 + 1 + 1) (by omega) [.int .u64 0, .slice none 0 0, .bool false] 0 (setAll (w.heap.size + 1 + 1) 0 [.int .i64 T, .int .i64 C, .slice A q c, .int .u64 (RN : Int), .slice A0 n c0, .slice A1 n c1] W)).trans (setAll_all (vs := [.int .i64 T, .int .i64 C, .slice A q c, .int .u64 (RN : Int), .slice A0 n c0, .slice A1 n c1]) hO rfl)
  have hfP : wf.heap[w.heap.size + 1 + 1 + 1]? = some (.cells #[.int .u64 0, .slice none 0 0, .bool false] 51 (0, 0)) := hwf ▸ setAll_all (vs := [.int .u64 0, .slice none 0 0, .bool false]) hPm rfl
  have hfd := (hdk.but (But.all (w.heap.size + 1 + 1) [.int .i64 T, .int .i64 C, .slice A q c, .int .u64 (RN : Int), .slice A0 n c0, .slice A1 n c1] 0 W) hO rfl).but (But.all (w.heap.size + 1 + 1 + 1) [.int .u64 0, .slice none 0 0, .bool false] 0 _) hPm rfl
  have hfb := BytesV.but (BytesV.but hby (But.all (w.heap.size + 1 + 1) [.int .i64 T, .int .i64 C, .slice A q c, .int .u64 (RN : Int), .slice A0 n c0, .slice A1 n c1] 0 W) hO rfl) (But.all (w.heap.size + 1 + 1 + 1) [.int .u64 0, .slice none 0 0, .bool false] 0 _) hPm rfl
  have hfw := WordsV.but (WordsV.but hwv hwl (But.all (w.heap.size + 1 + 1) [.int .i64 T, .int .i64 C, .slice A q c, .int .u64 (RN : Int), .slice A0 n c0, .slice A1 n c1] 0 W) hO rfl) hwl (But.all (w.heap.size + 1 + 1 + 1) [.int .u64 0, .slice none 0 0, .bool false] 0 _) hPm rfl
  rw [← hwf] at hfd hfb hfw
  simp only [setAll] at hwf
  have HWF := Lib.hid hwf
  clear hwf hE hO hP hPm hdk hby hwv hW
  go_wp2_with fail
  rw [← HWF.out]
  clear HWF e0 e1 e2 e3 e4 e5 o0 o1 o2 o3 o4 o5 of0 of1 of2 of3 of4 of5 p0 p1 p2 pf0 pf1 pf2
  have o0 : wf.cell? ⟨w.heap.size + 1 + 1, 0, none⟩ = some (.int .i64 T) := by simp [World.cell?, hfO]
  have o1 : wf.cell? ⟨w.heap.size + 1 + 1, 1, none⟩ = some (.int .i64 C) := by simp [World.cell?, hfO]
  have o2 : wf.cell? ⟨w.heap.size + 1 + 1, 2, none⟩ = some (.slice A q c) := by simp [World.cell?, hfO]
  have o3 : wf.cell? ⟨w.heap.size + 1 + 1, 3, none⟩ = some (.int .u64 (RN : Int)) := by simp [World.cell?, hfO]
  have o4 : wf.cell? ⟨w.heap.size + 1 + 1, 4, none⟩ = some (.slice A0 n c0) := by simp [World.cell?, hfO]
  have o5 : wf.cell? ⟨w.heap.size + 1 + 1, 5, none⟩ = some (.slice A1 n c1) := by simp [World.cell?, hfO]
  have p0 : wf.cell? ⟨w.heap.size + 1 + 1 + 1, 0, none⟩ = some (.int .u64 0) := by simp [World.cell?, hfP]
  have p1 : wf.cell? ⟨w.heap.size + 1 + 1 + 1, 1, none⟩ = some (.slice none 0 0) := by simp [World.cell?, hfP]
  have p2 : wf.cell? ⟨w.heap.size + 1 + 1 + 1, 2, none⟩ = some (.bool false) := by simp [World.cell?, hfP]
  refine bodyPost_ret (v := .tuple #[.agg #[.int .i64 T, .int .i64 C, .slice A q c, .int .u64 (RN : Int), .slice A0 n c0, .slice A1 n c1], .agg #[.int .u64 0, .slice none 0 0, .bool false]]) (by simp [results, Try.results19, go_sem, o0, o1, o2, o3, o4, o5, p0, p1, p2]) rfl ⟨_, _, rfl, ⟨_, _, _, _, _, _, _, rfl, hfw, hfd⟩, ⟨_, _, _, rfl, hfb⟩, hF⟩
 ·have h0 : ¬ 5 ≤ k := by omega
  clear hko
  go_upto_region 33 with (fail)
  clear e0 e1 e2 e3 e4 e5 g0 g1 g2 g3 g4 g5
  have hdk := hd.ext hW
  have hwv := hA.ext hW
  have hby := bytes_nil W
  have hwl := hws2
  have e0 : W.cell? ⟨w.heap.size, 0, none⟩ = some (.int .i64 T) := by simp [World.cell?, hE]
  have e1 : W.cell? ⟨w.heap.size, 1, none⟩ = some (.int .i64 C) := by simp [World.cell?, hE]
  have e2 : W.cell? ⟨w.heap.size, 2, none⟩ = some (.slice A q c) := by simp [World.cell?, hE]
  have e3 : W.cell? ⟨w.heap.size, 3, none⟩ = some (.int .u64 (RN : Int)) := by simp [World.cell?, hE]
  have e4 : W.cell? ⟨w.heap.size, 4, none⟩ = some (.slice A0 n c0) := by simp [World.cell?, hE]
  have e5 : W.cell? ⟨w.heap.size, 5, none⟩ = some (.slice A1 n c1) := by simp [World.cell?, hE]
  have o0 : W.cell? ⟨w.heap.size + 1 + 1, 0, none⟩ = some (.int .i64 0) := by simp [World.cell?, hO]
  have of0 : W.frozen? ⟨w.heap.size + 1 + 1, 0, none⟩ = false := by simp [World.frozen?, hO]
  have o1 : W.cell? ⟨w.heap.size + 1 + 1, 1, none⟩ = some (.int .i64 0) := by simp [World.cell?, hO]
  have of1 : W.frozen? ⟨w.heap.size + 1 + 1, 1, none⟩ = false := by simp [World.frozen?, hO]
  have o2 : W.cell? ⟨w.heap.size + 1 + 1, 2, none⟩ = some (.slice none 0 0) := by simp [World.cell?, hO]
  have of2 : W.frozen? ⟨w.heap.size + 1 + 1, 2, none⟩ = false := by simp [World.frozen?, hO]
  have o3 : W.cell? ⟨w.heap.size + 1 + 1, 3, none⟩ = some (.int .u64 0) := by simp [World.cell?, hO]
  have of3 : W.frozen? ⟨w.heap.size + 1 + 1, 3, none⟩ = false := by simp [World.frozen?, hO]
  have o4 : W.cell? ⟨w.heap.size + 1 + 1, 4, none⟩ = some (.slice none 0 0) := by simp [World.cell?, hO]
  have of4 : W.frozen? ⟨w.heap.size + 1 + 1, 4, none⟩ = false := by simp [World.frozen?, hO]
  have o5 : W.cell? ⟨w.heap.size + 1 + 1, 5, none⟩ = some (.slice none 0 0) := by simp [World.cell?, hO]
  have of5 : W.frozen? ⟨w.heap.size + 1 + 1, 5, none⟩ = false := by simp [World.frozen?, hO]
  have p0 : W.cell? ⟨w.heap.size + 1 + 1 + 1, 0, none⟩ = some (.int .u64 0) := by simp [World.cell?, hP]
  have pf0 : W.frozen? ⟨w.heap.size + 1 + 1 + 1, 0, none⟩ = false := by simp [World.frozen?, hP]
  have p1 : W.cell? ⟨w.heap.size + 1 + 1 + 1, 1, none⟩ = some (.slice none 0 0) := by simp [World.cell?, hP]
  have pf1 : W.frozen? ⟨w.heap.size + 1 + 1 + 1, 1, none⟩ = false := by simp [World.frozen?, hP]
  have p2 : W.cell? ⟨w.heap.size + 1 + 1 + 1, 2, none⟩ = some (.bool false) := by simp [World.cell?, hP]
  have pf2 : W.frozen? ⟨w.heap.size + 1 + 1 + 1, 2, none⟩ = false := by simp [World.frozen?, hP]
  have hPm : (setAll (w.heap.size + 1 + 1) 0 [.int .i64 T, .int .i64 C, .slice A q c, .int .u64 (RN : Int), .slice A0 n c0, .slice A1 n c1] W).heap[w.heap.size + 1 + 1 + 1]? = some (.cells #[.int .u64 0, .slice none 0 0, .bool false] 51 (0, 0)) := (setAll_other (g := w.heap.size + 1 + 1) (by omega) [.int .i64 T, .int .i64 C, .slice A q c, .int .u64 (RN : Int), .slice A0 n c0, .slice A1 n c1] 0 W).trans hP
  obtain ⟨wf, hwf⟩ : ∃ wf, wf = setAll (w.heap.size + 1 + 1 + 1) 0 [.int .u64 0, .slice none 0 0, .bool false] (setAll (w.heap.size + 1 + 1) 0 [.int .i64 T, .int .i64 C, .slice A q c, .int .u64 (RN : Int), .slice A0 n c0, .slice A1 n c1] W) := ⟨_, rfl⟩
  have hF : Ext w wf := hwf ▸ setAll_ext (g := w.heap.size + 1 + 1 + 1) (vs := [.int .u64 0, .slice none 0 0, .bool false]) (i := 0) (setAll_ext (g := w.heap.size + 1 + 1) (vs := [.int .i64 T, .int .i64 C, .slice A q c, .int .u64 (RN : Int), .slice A0 n c0, .slice A1 n c1]) (i := 0) hW (by omega)) (by omega)
  have hfO : wf.heap[w.heap.size + 1 + 1]? = some (.cells #[.int .i64 T, .int .i64 C, .slice A q c, .int .u64 (RN : Int), .slice A0 n c0, .slice A1 n c1] 32 (0, 0)) := hwf ▸ (setAll_other (g := w.heap.size + 1 + 1 + 1) (by omega) [.int .u64 0, .slice none 0 0, .bool false] 0 (setAll (w.heap.size + 1 + 1) 0 [.int .i64 T, .int .i64 C, .slice A q c, .int .u64 (RN : Int), .slice A0 n c0, .slice A1 n c1] W)).trans (setAll_all (vs := [.int .i64 T, .int .i64 C, .slice A q c, .int .u64 (RN : Int), .slice A0 n c0, .slice A1 n c1]) hO rfl)
  have hfP : wf.heap[w.heap.size + 1 + 1 + 1]? = some (.cells #[.int .u64 0, .slice none 0 0, .bool false] 51 (0, 0)) := hwf ▸ setAll_all (vs := [.int .u64 0, .slice none 0 0, .bool false]) hPm rfl
  have hfd := (hdk.but (But.all (w.heap.size + 1 + 1) [.int .i64 T, .int .i64 C, .slice A q c, .int .u64 (RN : Int), .slice A0 n c0, .slice A1 n c1] 0 W) hO rfl).but (But.all (w.heap.size + 1 + 1 + 1) [.int .u64 0, .slice none 0 0, .bool false] 0 _) hPm rfl
  have hfb := BytesV.but (BytesV.but hby (But.all (w.heap.size + 1 + 1) [.int .i64 T, .int .i64 C, .slice A q c, .int .u64 (RN : Int), .slice A0 n c0, .slice A1 n c1] 0 W) hO rfl) (But.all (w.heap.size + 1 + 1 + 1) [.int .u64 0, .slice none 0 0, .bool false] 0 _) hPm rfl
  have hfw := WordsV.but (WordsV.but hwv hwl (But.all (w.heap.size + 1 + 1) [.int .i64 T, .int .i64 C, .slice A q c, .int .u64 (RN : Int), .slice A0 n c0, .slice A1 n c1] 0 W) hO rfl) hwl (But.all (w.heap.size + 1 + 1 + 1) [.int .u64 0, .slice none 0 0, .bool false] 0 _) hPm rfl
  rw [← hwf] at hfd hfb hfw
  simp only [setAll] at hwf
  have HWF := Lib.hid hwf
  clear hwf hE hO hP hPm hdk hby hwv hW
  go_wp2_with fail
  rw [← HWF.out]
  clear HWF e0 e1 e2 e3 e4 e5 o0 o1 o2 o3 o4 o5 of0 of1 of2 of3 of4 of5 p0 p1 p2 pf0 pf1 pf2
  have o0 : wf.cell? ⟨w.heap.size + 1 + 1, 0, none⟩ = some (.int .i64 T) := by simp [World.cell?, hfO]
  have o1 : wf.cell? ⟨w.heap.size + 1 + 1, 1, none⟩ = some (.int .i64 C) := by simp [World.cell?, hfO]
  have o2 : wf.cell? ⟨w.heap.size + 1 + 1, 2, none⟩ = some (.slice A q c) := by simp [World.cell?, hfO]
  have o3 : wf.cell? ⟨w.heap.size + 1 + 1, 3, none⟩ = some (.int .u64 (RN : Int)) := by simp [World.cell?, hfO]
  have o4 : wf.cell? ⟨w.heap.size + 1 + 1, 4, none⟩ = some (.slice A0 n c0) := by simp [World.cell?, hfO]
  have o5 : wf.cell? ⟨w.heap.size + 1 + 1, 5, none⟩ = some (.slice A1 n c1) := by simp [World.cell?, hfO]
  have p0 : wf.cell? ⟨w.heap.size + 1 + 1 + 1, 0, none⟩ = some (.int .u64 0) := by simp [World.cell?, hfP]
  have p1 : wf.cell? ⟨w.heap.size + 1 + 1 + 1, 1, none⟩ = some (.slice none 0 0) := by simp [World.cell?, hfP]
  have p2 : wf.cell? ⟨w.heap.size + 1 + 1 + 1, 2, none⟩ = some (.bool false) := by simp [World.cell?, hfP]
  refine bodyPost_ret (v := .tuple #[.agg #[.int .i64 T, .int .i64 C, .slice A q c, .int .u64 (RN : Int), .slice A0 n c0, .slice A1 n c1], .agg #[.int .u64 0, .slice none 0 0, .bool false]]) (by simp [results, Try.results19, go_sem, o0, o1, o2, o3, o4, o5, p0, p1, p2]) rfl ⟨_, _, rfl, ⟨_, _, _, _, _, _, _, rfl, hfw, hfd⟩, ⟨_, _, _, rfl, hfb⟩, hF⟩
set_option maxRecDepth 100000 in
set_option maxHeartbeats 2000000 in
theorem rdo_w0 (T C : Int) (A : Option Addr) (q c : Nat) (ws : List Int) (RN n : Nat) (A0 A1 : Option Addr) (c0 c1 : Nat) (K0 K1 : List Key) (me ce a b : Int) (D : Option Addr) (m cd : Nat) (B : Option Addr) (q2 cb : Nat) (dat : List UInt8) (wd : List Int) (w : World) (hA : WordsV w A q c ws) (hd : DkK w (.agg #[.int .u64 (RN : Int), .slice A0 n c0, .slice A1 n c1]) (RN : Int) n K0 K1)
  (hB : BytesV w D m cd dat) (hwd : WordsV w B q2 cb wd) (ha : 0 ≤ a ∧ a < 18446744073709551616) (hb : 0 ≤ b ∧ b < 18446744073709551616) {mF : Nat} (hF : Fit ⟨T, C, ws, RN, n, K0, K1⟩ mF) (fl : Bool) (hc0 : 0 ≤ ce) (hc1 : ce < (q : Int))  :
  Calls Try.prog 19 #[.agg #[.int .i64 T, .int .i64 C, .slice A q c, .int .u64 (RN : Int), .slice A0 n c0, .slice A1 n c1], .int .i64 me, .agg #[.int .i64 0, .int .i64 ce, .int .u64 a, .int .u64 b, .slice D m cd, .slice B q2 cb], .bool fl] w (DoPost (⟨T, C, ws, RN, n, K0, K1⟩ : WldK) ⟨(ws.getD ce.toNat 0), [], false⟩ w) := by
 have hlen := hA.len
 have hlen2 := hwd.len
 have hpos : 0 < n := hF.pos
 have hn : n ≤ 64 := hF.le
 have hn6 : n ≤ 65536 := by omega
 have hR : RN < 18446744073709551616 := by have := hF.root.2; simp only at this; omega
 have hws2 : 2 ≤ ws.length := hF.ws.1
 have hws6 : ws.length ≤ 65536 := hF.ws.2
 have hm0 : ∀ x ∈ K0, x.1.length + mF ≤ 65536 := hF.k0
 have hm1 : ∀ x ∈ K1, x.1.length + mF ≤ 65536 := hF.k1
 have hs0 : ∀ x ∈ K0, x.1.length ≤ 65536 := fun x hx => by have := hm0 x hx; omega
 have hs1 : ∀ x ∈ K1, x.1.length ≤ 65536 := fun x hx => by have := hm1 x hx; omega
 clear hF
 obtain ⟨rr, hrr, hr2⟩ : ∃ rr, RN % 2 = rr ∧ rr < 2 := ⟨_, rfl, Nat.mod_lt _ (by omega)⟩
 have hri : (RN : Int) % 2 = (rr : Int) := by omega
 have hsub : IntKind.i64.wrap (1 - (rr : Int)) = 1 - (rr : Int) := by rw [IntKind.wrap_i64]; omega
 have hm : Int.tmod (RN : Int) 2 = (rr : Int) := by rw [Int.tmod_eq_emod_of_nonneg (by omega)]; omega
 have hw1 : IntKind.u64.wrap (rr : Int) = (rr : Int) := by rw [IntKind.wrap_u64]; omega
 have hw2 : IntKind.i64.wrap (rr : Int) = (rr : Int) := by rw [IntKind.wrap_i64]; omega
 try rw [hri]
 clear hrr hri
 go_enter Try.func19, Try.ntmps19
 go_upto_region 1 with (fail)
 obtain ⟨hW, hE, hG, hO, hP⟩ := boxes4 w (.cells #[.int .i64 T, .int .i64 C, .slice A q c, .int .u64 (RN : Int), .slice A0 n c0, .slice A1 n c1] 32) (.cells #[.int .i64 0, .int .i64 ce, .int .u64 a, .int .u64 b, .slice D m cd, .slice B q2 cb] 42) (.cells #[.int .i64 0, .int .i64 0, .slice none 0 0, .int .u64 0, .slice none 0 0, .slice none 0 0] 32) (.cells #[.int .u64 0, .slice none 0 0, .bool false] 51)
 generalize (((w.alloc (.cells #[.int .i64 T, .int .i64 C, .slice A q c, .int .u64 (RN : Int), .slice A0 n c0, .slice A1 n c1] 32)).alloc (.cells #[.int .i64 0, .int .i64 ce, .int .u64 a, .int .u64 b, .slice D m cd, .slice B q2 cb] 42)).alloc (.cells #[.int .i64 0, .int .i64 0, .slice none 0 0, .int .u64 0, .slice none 0 0, .slice none 0 0] 32)).alloc (.cells #[.int .u64 0, .slice none 0 0, .bool false] 51) = W at *
 have hlt : w.heap.size + 1 + 1 + 1 < W.heap.size := (Array.getElem?_eq_some_iff.1 hP).1
 have e0 : W.cell? ⟨w.heap.size, 0, none⟩ = some (.int .i64 T) := by simp [World.cell?, hE]
 have e1 : W.cell? ⟨w.heap.size, 1, none⟩ = some (.int .i64 C) := by simp [World.cell?, hE]
 have e2 : W.cell? ⟨w.heap.size, 2, none⟩ = some (.slice A q c) := by simp [World.cell?, hE]
 have e3 : W.cell? ⟨w.heap.size, 3, none⟩ = some (.int .u64 (RN : Int)) := by simp [World.cell?, hE]
 have e4 : W.cell? ⟨w.heap.size, 4, none⟩ = some (.slice A0 n c0) := by simp [World.cell?, hE]
 have e5 : W.cell? ⟨w.heap.size, 5, none⟩ = some (.slice A1 n c1) := by simp [World.cell?, hE]
 have g0 : W.cell? ⟨w.heap.size + 1, 0, none⟩ = some (.int .i64 0) := by simp [World.cell?, hG]
 have g1 : W.cell? ⟨w.heap.size + 1, 1, none⟩ = some (.int .i64 ce) := by simp [World.cell?, hG]
 have g2 : W.cell? ⟨w.heap.size + 1, 2, none⟩ = some (.int .u64 a) := by simp [World.cell?, hG]
 have g3 : W.cell? ⟨w.heap.size + 1, 3, none⟩ = some (.int .u64 b) := by simp [World.cell?, hG]
 have g4 : W.cell? ⟨w.heap.size + 1, 4, none⟩ = some (.slice D m cd) := by simp [World.cell?, hG]
 have g5 : W.cell? ⟨w.heap.size + 1, 5, none⟩ = some (.slice B q2 cb) := by simp [World.cell?, hG]
 go_upto_region 2 with (fail)
 clear hm hw1 hw2
 obtain ⟨i, rfl⟩ := Int.eq_ofNat_of_zero_le hc0
 have hiq : i < q := by omega
 obtain ⟨a0, rfl, hac, hr1, hr2⟩ := hA.at hiq
 have hac' := hW.cell hac
 try simp only [Int.toNat_natCast] at *
 generalize hold : ws.getD i 0 = old at *
 have hiI : (i : Int) < (q : Int) := by omega
 go_upto_region 48 with (fail)
 clear e0 e1 e2 e3 e4 e5 g0 g1 g2 g3 g4 g5
 clear hac hac'
 have hdk := hd.ext hW
 have hwv := hA.ext hW
 have hby := bytes_nil W
 have hwl := hws2
 have e0 : W.cell? ⟨w.heap.size, 0, none⟩ = some (.int .i64 T) := by simp [World.cell?, hE]
 have e1 : W.cell? ⟨w.heap.size, 1, none⟩ = some (.int .i64 C) := by simp [World.cell?, hE]
 have e2 : W.cell? ⟨w.heap.size, 2, none⟩ = some (.slice (some a0) q c) := by simp [World.cell?, hE]
 have e3 : W.cell? ⟨w.heap.size, 3, none⟩ = some (.int .u64 (RN : Int)) := by simp [World.cell?, hE]
 have e4 : W.cell? ⟨w.heap.size, 4, none⟩ = some (.slice A0 n c0) := by simp [World.cell?, hE]
 have e5 : W.cell? ⟨w.heap.size, 5, none⟩ = some (.slice A1 n c1) := by simp [World.cell?, hE]
 have o0 : W.cell? ⟨w.heap.size + 1 + 1, 0, none⟩ = some (.int .i64 0) := by simp [World.cell?, hO]
 have of0 : W.frozen? ⟨w.heap.size + 1 + 1, 0, none⟩ = false := by simp [World.frozen?, hO]
 have o1 : W.cell? ⟨w.heap.size + 1 + 1, 1, none⟩ = some (.int .i64 0) := by simp [World.cell?, hO]
 have of1 : W.frozen? ⟨w.heap.size + 1 + 1, 1, none⟩ = false := by simp [World.frozen?, hO]
 have o2 : W.cell? ⟨w.heap.size + 1 + 1, 2, none⟩ = some (.slice none 0 0) := by simp [World.cell?, hO]
 have of2 : W.frozen? ⟨w.heap.size + 1 + 1, 2, none⟩ = false := by simp [World.frozen?, hO]
 have o3 : W.cell? ⟨w.heap.size + 1 + 1, 3, none⟩ = some (.int .u64 0) := by simp [World.cell?, hO]
 have of3 : W.frozen? ⟨w.heap.size + 1 + 1, 3, none⟩ = false := by simp [World.frozen?, hO]
 have o4 : W.cell? ⟨w.heap.size + 1 + 1, 4, none⟩ = some (.slice none 0 0) := by simp [World.cell?, hO]
 have of4 : W.frozen? ⟨w.heap.size + 1 + 1, 4, none⟩ = false := by simp [World.frozen?, hO]
 have o5 : W.cell? ⟨w.heap.size + 1 + 1, 5, none⟩ = some (.slice none 0 0) := by simp [World.cell?, hO]
 have of5 : W.frozen? ⟨w.heap.size + 1 + 1, 5, none⟩ = false := by simp [World.frozen?, hO]
 have p0 : W.cell? ⟨w.heap.size + 1 + 1 + 1, 0, none⟩ = some (.int .u64 0) := by simp [World.cell?, hP]
 have pf0 : W.frozen? ⟨w.heap.size + 1 + 1 + 1, 0, none⟩ = false := by simp [World.frozen?, hP]
 have p1 : W.cell? ⟨w.heap.size + 1 + 1 + 1, 1, none⟩ = some (.slice none 0 0) := by simp [World.cell?, hP]
 have pf1 : W.frozen? ⟨w.heap.size + 1 + 1 + 1, 1, none⟩ = false := by simp [World.frozen?, hP]
 have p2 : W.cell? ⟨w.heap.size + 1 + 1 + 1, 2, none⟩ = some (.bool false) := by simp [World.cell?, hP]
 have pf2 : W.frozen? ⟨w.heap.size + 1 + 1 + 1, 2, none⟩ = false := by simp [World.frozen?, hP]
 have hPm : (setAll (w.heap.size + 1 + 1) 0 [.int .i64 T, .int .i64 C, .slice (some a0) q c, .int .u64 (RN : Int), .slice A0 n c0, .slice A1 n c1] W).heap[w.heap.size + 1 + 1 + 1]? = some (.cells #[.int .u64 0, .slice none 0 0, .bool false] 51 (0, 0)) := (setAll_other (g := w.heap.size + 1 + 1) (by omega) [.int .i64 T, .int .i64 C, .slice (some a0) q c, .int .u64 (RN : Int), .slice A0 n c0, .slice A1 n c1] 0 W).trans hP
 obtain ⟨wf, hwf⟩ : ∃ wf, wf = setAll (w.heap.size + 1 + 1 + 1) 0 [.int .u64 old, .slice none 0 0, .bool false] (setAll (w.heap.size + 1 + 1) 0 [.int .i64 T, .int .i64 C, .slice (some a0) q c, .int .u64 (RN : Int), .slice A0 n c0, .slice A1 n c1] W) := ⟨_, rfl⟩
 have hF : Ext w wf := hwf ▸ setAll_ext (g := w.heap.size + 1 + 1 + 1) (vs := [.int .u64 old, .slice none 0 0, .bool false]) (i := 0) (setAll_ext (g := w.heap.size + 1 + 1) (vs := [.int .i64 T, .int .i64 C, .slice (some a0) q c, .int .u64 (RN : Int), .slice A0 n c0, .slice A1 n c1]) (i := 0) hW (by omega)) (by omega)
 have hfO : wf.heap[w.heap.size + 1 + 1]? = some (.cells #[.int .i64 T, .int .i64 C, .slice (some a0) q c, .int .u64 (RN : Int), .slice A0 n c0, .slice A1 n c1] 32 (0, 0)) := hwf ▸ (setAll_other (g := w.heap.size + 1 + 1 + 1) (by omega) [.int .u64 old, .slice none 0 0, .bool false] 0 (setAll (w.heap.size + 1 + 1) 0 [.int .i64 T, .int .i64 C, .slice (some a0) q c, .int .u64 (RN : Int), .slice A0 n c0, .slice A1 n c1] W)).trans (setAll_all (vs := [.int .i64 T, .int .i64 C, .slice (some a0) q c, .int .u64 (RN : Int), .slice A0 n c0, .slice A1 n c1]) hO rfl)
 have hfP : wf.heap[w.heap.size + 1 + 1 + 1]? = some (.cells #[.int .u64 old, .slice none 0 0, .bool false] 51 (0, 0)) := hwf ▸ setAll_all (vs := [.int .u64 old, .slice none 0 0, .bool false]) hPm rfl
 have hfd := (hdk.but (But.all (w.heap.size + 1 + 1) [.int .i64 T, .int .i64 C, .slice (some a0) q c, .int .u64 (RN : Int), .slice A0 n c0, .slice A1 n c1] 0 W) hO rfl).but (But.all (w.heap.size + 1 + 1 + 1) [.int .u64 old, .slice none 0 0, .bool false] 0 _) hPm rfl
 have hfb := BytesV.but (BytesV.but hby (But.all (w.heap.size + 1 + 1) [.int .i64 T, .int .i64 C, .slice (some a0) q c, .int .u64 (RN : Int), .slice A0 n c0, .slice A1 n c1] 0 W) hO rfl) (But.all (w.heap.size + 1 + 1 + 1) [.int .u64 old, .slice none 0 0, .bool false] 0 _) hPm rfl
 have hfw := WordsV.but (WordsV.but hwv hwl (But.all (w.heap.size + 1 + 1) [.int .i64 T, .int .i64 C, .slice (some a0) q c, .int .u64 (RN : Int), .slice A0 n c0, .slice A1 n c1] 0 W) hO rfl) hwl (But.all (w.heap.size + 1 + 1 + 1) [.int .u64 old, .slice none 0 0, .bool false] 0 _) hPm rfl
 rw [← hwf] at hfd hfb hfw
 simp only [setAll] at hwf
 have HWF := Lib.hid hwf
 clear hwf hE hO hP hPm hdk hby hwv hW
 go_wp2_with fail
 rw [← HWF.out]
 clear HWF e0 e1 e2 e3 e4 e5 o0 o1 o2 o3 o4 o5 of0 of1 of2 of3 of4 of5 p0 p1 p2 pf0 pf1 pf2
 have o0 : wf.cell? ⟨w.heap.size + 1 + 1, 0, none⟩ = some (.int .i64 T) := by simp [World.cell?, hfO]
 have o1 : wf.cell? ⟨w.heap.size + 1 + 1, 1, none⟩ = some (.int .i64 C) := by simp [World.cell?, hfO]
 have o2 : wf.cell? ⟨w.heap.size + 1 + 1, 2, none⟩ = some (.slice (some a0) q c) := by simp [World.cell?, hfO]
 have o3 : wf.cell? ⟨w.heap.size + 1 + 1, 3, none⟩ = some (.int .u64 (RN : Int)) := by simp [World.cell?, hfO]
 have o4 : wf.cell? ⟨w.heap.size + 1 + 1, 4, none⟩ = some (.slice A0 n c0) := by simp [World.cell?, hfO]
 have o5 : wf.cell? ⟨w.heap.size + 1 + 1, 5, none⟩ = some (.slice A1 n c1) := by simp [World.cell?, hfO]
 have p0 : wf.cell? ⟨w.heap.size + 1 + 1 + 1, 0, none⟩ = some (.int .u64 old) := by simp [World.cell?, hfP]
 have p1 : wf.cell? ⟨w.heap.size + 1 + 1 + 1, 1, none⟩ = some (.slice none 0 0) := by simp [World.cell?, hfP]
 have p2 : wf.cell? ⟨w.heap.size + 1 + 1 + 1, 2, none⟩ = some (.bool false) := by simp [World.cell?, hfP]
 refine bodyPost_ret (v := .tuple #[.agg #[.int .i64 T, .int .i64 C, .slice (some a0) q c, .int .u64 (RN : Int), .slice A0 n c0, .slice A1 n c1], .agg #[.int .u64 old, .slice none 0 0, .bool false]]) (by simp [results, Try.results19, go_sem, o0, o1, o2, o3, o4, o5, p0, p1, p2]) rfl ⟨_, _, rfl, ⟨_, _, _, _, _, _, _, rfl, hfw, hfd⟩, ⟨_, _, _, rfl, hfb⟩, hF⟩
set_option maxRecDepth 100000 in
set_option maxHeartbeats 2000000 in
theorem rdo_w1 (T C : Int) (A : Option Addr) (q c : Nat) (ws : List Int) (RN n : Nat) (A0 A1 : Option Addr) (c0 c1 : Nat) (K0 K1 : List Key) (me ce a b : Int) (D : Option Addr) (m cd : Nat) (B : Option Addr) (q2 cb : Nat) (dat : List UInt8) (wd : List Int) (w : World) (hA : WordsV w A q c ws) (hd : DkK w (.agg #[.int .u64 (RN : Int), .slice A0 n c0, .slice A1 n c1]) (RN : Int) n K0 K1)
  (hB : BytesV w D m cd dat) (hwd : WordsV w B q2 cb wd) (ha : 0 ≤ a ∧ a < 18446744073709551616) (hb : 0 ≤ b ∧ b < 18446744073709551616) {mF : Nat} (hF : Fit ⟨T, C, ws, RN, n, K0, K1⟩ mF) (fl : Bool) (hc0 : 0 ≤ ce) (hc1 : ce < (q : Int))  :
  Calls Try.prog 19 #[.agg #[.int .i64 T, .int .i64 C, .slice A q c, .int .u64 (RN : Int), .slice A0 n c0, .slice A1 n c1], .int .i64 me, .agg #[.int .i64 1, .int .i64 ce, .int .u64 a, .int .u64 b, .slice D m cd, .slice B q2 cb], .bool fl] w (DoPost (⟨T, C, ws.set ce.toNat a, RN, n, K0, K1⟩ : WldK) ⟨0, [], false⟩ w) := by
 have hlen := hA.len
 have hlen2 := hwd.len
 have hpos : 0 < n := hF.pos
 have hn : n ≤ 64 := hF.le
 have hn6 : n ≤ 65536 := by omega
 have hR : RN < 18446744073709551616 := by have := hF.root.2; simp only at this; omega
 have hws2 : 2 ≤ ws.length := hF.ws.1
 have hws6 : ws.length ≤ 65536 := hF.ws.2
 have hm0 : ∀ x ∈ K0, x.1.length + mF ≤ 65536 := hF.k0
 have hm1 : ∀ x ∈ K1, x.1.length + mF ≤ 65536 := hF.k1
 have hs0 : ∀ x ∈ K0, x.1.length ≤ 65536 := fun x hx => by have := hm0 x hx; omega
 have hs1 : ∀ x ∈ K1, x.1.length ≤ 65536 := fun x hx => by have := hm1 x hx; omega
 clear hF
 obtain ⟨rr, hrr, hr2⟩ : ∃ rr, RN % 2 = rr ∧ rr < 2 := ⟨_, rfl, Nat.mod_lt _ (by omega)⟩
 have hri : (RN : Int) % 2 = (rr : Int) := by omega
 have hsub : IntKind.i64.wrap (1 - (rr : Int)) = 1 - (rr : Int) := by rw [IntKind.wrap_i64]; omega
 have hm : Int.tmod (RN : Int) 2 = (rr : Int) := by rw [Int.tmod_eq_emod_of_nonneg (by omega)]; omega
 have hw1 : IntKind.u64.wrap (rr : Int) = (rr : Int) := by rw [IntKind.wrap_u64]; omega
 have hw2 : IntKind.i64.wrap (rr : Int) = (rr : Int) := by rw [IntKind.wrap_i64]; omega
 try rw [hri]
 clear hrr hri
 go_enter Try.func19, Try.ntmps19
 go_upto_region 1 with (fail)
 obtain ⟨hW, hE, hG, hO, hP⟩ := boxes4 w (.cells #[.int .i64 T, .int .i64 C, .slice A q c, .int .u64 (RN : Int), .slice A0 n c0, .slice A1 n c1] 32) (.cells #[.int .i64 1, .int .i64 ce, .int .u64 a, .int .u64 b, .slice D m cd, .slice B q2 cb] 42) (.cells #[.int .i64 0, .int .i64 0, .slice none 0 0, .int .u64 0, .slice none 0 0, .slice none 0 0] 32) (.cells #[.int .u64 0, .slice none 0 0, .bool false] 51)
 generalize (((w.alloc (.cells #[.int .i64 T, .int .i64 C, .slice A q c, .int .u64 (RN : Int), .slice A0 n c0, .slice A1 n c1] 32)).alloc (.cells #[.int .i64 1, .int .i64 ce, .int .u64 a, .int .u64 b, .slice D m cd, .slice B q2 cb] 42)).alloc (.cells #[.int .i64 0, .int .i64 0, .slice none 0 0, .int .u64 0, .slice none 0 0, .slice none 0 0] 32)).alloc (.cells #[.int .u64 0, .slice none 0 0, .bool false] 51) = W at *
 have hlt : w.heap.size + 1 + 1 + 1 < W.heap.size := (Array.getElem?_eq_some_iff.1 hP).1
 have e0 : W.cell? ⟨w.heap.size, 0, none⟩ = some (.int .i64 T) := by simp [World.cell?, hE]
 have e1 : W.cell? ⟨w.heap.size, 1, none⟩ = some (.int .i64 C) := by simp [World.cell?, hE]
 have e2 : W.cell? ⟨w.heap.size, 2, none⟩ = some (.slice A q c) := by simp [World.cell?, hE]
 have e3 : W.cell? ⟨w.heap.size, 3, none⟩ = some (.int .u64 (RN : Int)) := by simp [World.cell?, hE]
 have e4 : W.cell? ⟨w.heap.size, 4, none⟩ = some (.slice A0 n c0) := by simp [World.cell?, hE]
 have e5 : W.cell? ⟨w.heap.size, 5, none⟩ = some (.slice A1 n c1) := by simp [World.cell?, hE]
 have g0 : W.cell? ⟨w.heap.size + 1, 0, none⟩ = some (.int .i64 1) := by simp [World.cell?, hG]
 have g1 : W.cell? ⟨w.heap.size + 1, 1, none⟩ = some (.int .i64 ce) := by simp [World.cell?, hG]
 have g2 : W.cell? ⟨w.heap.size + 1, 2, none⟩ = some (.int .u64 a) := by simp [World.cell?, hG]
 have g3 : W.cell? ⟨w.heap.size + 1, 3, none⟩ = some (.int .u64 b) := by simp [World.cell?, hG]
 have g4 : W.cell? ⟨w.heap.size + 1, 4, none⟩ = some (.slice D m cd) := by simp [World.cell?, hG]
 have g5 : W.cell? ⟨w.heap.size + 1, 5, none⟩ = some (.slice B q2 cb) := by simp [World.cell?, hG]
 go_upto_region 2 with (fail)
 clear hm hw1 hw2
 obtain ⟨i, rfl⟩ := Int.eq_ofNat_of_zero_le hc0
 have hiq : i < q := by omega
 obtain ⟨a0, rfl, hac, hr1, hr2⟩ := hA.at hiq
 have hac' := hW.cell hac
 try simp only [Int.toNat_natCast] at *
 generalize hold : ws.getD i 0 = old at *
 have hiI : (i : Int) < (q : Int) := by omega
 go_wp2_with fail
 refine (rwith_any T C (some a0) q c ws i a _ (hA.ext hW) hiq (by omega) (by omega)).mono ?_
 rintro e w3 ⟨A9, c9, rfl, hwv, hx⟩
 replace hE := heap_ext hE hx
 replace hG := heap_ext hG hx
 replace hO := heap_ext hO hx
 replace hP := heap_ext hP hx
 replace hW := hW.trans hx
 clear e0 e1 e2 e3 e4 e5 g0 g1 g2 g3 g4 g5
 clear hx hac hac'
 have e0 : w3.cell? ⟨w.heap.size, 0, none⟩ = some (.int .i64 T) := by simp [World.cell?, hE]
 have ef0 : w3.frozen? ⟨w.heap.size, 0, none⟩ = false := by simp [World.frozen?, hE]
 have e1 : w3.cell? ⟨w.heap.size, 1, none⟩ = some (.int .i64 C) := by simp [World.cell?, hE]
 have ef1 : w3.frozen? ⟨w.heap.size, 1, none⟩ = false := by simp [World.frozen?, hE]
 have e2 : w3.cell? ⟨w.heap.size, 2, none⟩ = some (.slice (some a0) q c) := by simp [World.cell?, hE]
 have ef2 : w3.frozen? ⟨w.heap.size, 2, none⟩ = false := by simp [World.frozen?, hE]
 have e3 : w3.cell? ⟨w.heap.size, 3, none⟩ = some (.int .u64 (RN : Int)) := by simp [World.cell?, hE]
 have ef3 : w3.frozen? ⟨w.heap.size, 3, none⟩ = false := by simp [World.frozen?, hE]
 have e4 : w3.cell? ⟨w.heap.size, 4, none⟩ = some (.slice A0 n c0) := by simp [World.cell?, hE]
 have ef4 : w3.frozen? ⟨w.heap.size, 4, none⟩ = false := by simp [World.frozen?, hE]
 have e5 : w3.cell? ⟨w.heap.size, 5, none⟩ = some (.slice A1 n c1) := by simp [World.cell?, hE]
 have ef5 : w3.frozen? ⟨w.heap.size, 5, none⟩ = false := by simp [World.frozen?, hE]
 go_upto_region 38 with (fail)
 have hwl : 2 ≤ (ws.set i a).length := by simp; omega
 have hE3 : (((w3.setCell ⟨w.heap.size, 0, none⟩ (.int .i64 T)).setCell ⟨w.heap.size, 1, none⟩ (.int .i64 C)).setCell ⟨w.heap.size, 2, none⟩ (.slice A9 q c9)).heap[w.heap.size]? = some (.cells #[.int .i64 T, .int .i64 C, .slice A9 q c9, .int .u64 (RN : Int), .slice A0 n c0, .slice A1 n c1] 32 (0, 0)) := heap_setCell_at (heap_setCell_at (heap_setCell_at hE))
 have hO3 : (((w3.setCell ⟨w.heap.size, 0, none⟩ (.int .i64 T)).setCell ⟨w.heap.size, 1, none⟩ (.int .i64 C)).setCell ⟨w.heap.size, 2, none⟩ (.slice A9 q c9)).heap[w.heap.size + 1 + 1]? = some (.cells #[.int .i64 0, .int .i64 0, .slice none 0 0, .int .u64 0, .slice none 0 0, .slice none 0 0] 32 (0, 0)) := (setAll_other (g := w.heap.size) (by omega) [.int .i64 T, .int .i64 C, .slice A9 q c9] 0 w3).trans hO
 have hP3 : (((w3.setCell ⟨w.heap.size, 0, none⟩ (.int .i64 T)).setCell ⟨w.heap.size, 1, none⟩ (.int .i64 C)).setCell ⟨w.heap.size, 2, none⟩ (.slice A9 q c9)).heap[w.heap.size + 1 + 1 + 1]? = some (.cells #[.int .u64 0, .slice none 0 0, .bool false] 51 (0, 0)) := (setAll_other (g := w.heap.size) (by omega) [.int .i64 T, .int .i64 C, .slice A9 q c9] 0 w3).trans hP
 have hW3 : Ext w (((w3.setCell ⟨w.heap.size, 0, none⟩ (.int .i64 T)).setCell ⟨w.heap.size, 1, none⟩ (.int .i64 C)).setCell ⟨w.heap.size, 2, none⟩ (.slice A9 q c9)) := setAll_ext (g := w.heap.size) (vs := [.int .i64 T, .int .i64 C, .slice A9 q c9]) (i := 0) hW (Nat.le_refl _)
 replace hwv := WordsV.but hwv hwl (But.all w.heap.size [.int .i64 T, .int .i64 C, .slice A9 q c9] 0 w3) hE rfl
 change WordsV (((w3.setCell ⟨w.heap.size, 0, none⟩ (.int .i64 T)).setCell ⟨w.heap.size, 1, none⟩ (.int .i64 C)).setCell ⟨w.heap.size, 2, none⟩ (.slice A9 q c9)) _ _ _ _ at hwv
 clear e0 e1 e2 e3 e4 e5 ef0 ef1 ef2 ef3 ef4 ef5 hE hG hO hP hW
 generalize (((w3.setCell ⟨w.heap.size, 0, none⟩ (.int .i64 T)).setCell ⟨w.heap.size, 1, none⟩ (.int .i64 C)).setCell ⟨w.heap.size, 2, none⟩ (.slice A9 q c9)) = w4 at *
 have hE := hE3
 have hO := hO3
 have hP := hP3
 have hW := hW3
 clear hE3 hO3 hP3 hW3
 have hdk := hd.ext hW
 have hby := bytes_nil w4
 have e0 : w4.cell? ⟨w.heap.size, 0, none⟩ = some (.int .i64 T) := by simp [World.cell?, hE]
 have e1 : w4.cell? ⟨w.heap.size, 1, none⟩ = some (.int .i64 C) := by simp [World.cell?, hE]
 have e2 : w4.cell? ⟨w.heap.size, 2, none⟩ = some (.slice A9 q c9) := by simp [World.cell?, hE]
 have e3 : w4.cell? ⟨w.heap.size, 3, none⟩ = some (.int .u64 (RN : Int)) := by simp [World.cell?, hE]
 have e4 : w4.cell? ⟨w.heap.size, 4, none⟩ = some (.slice A0 n c0) := by simp [World.cell?, hE]
 have e5 : w4.cell? ⟨w.heap.size, 5, none⟩ = some (.slice A1 n c1) := by simp [World.cell?, hE]
 have o0 : w4.cell? ⟨w.heap.size + 1 + 1, 0, none⟩ = some (.int .i64 0) := by simp [World.cell?, hO]
 have of0 : w4.frozen? ⟨w.heap.size + 1 + 1, 0, none⟩ = false := by simp [World.frozen?, hO]
 have o1 : w4.cell? ⟨w.heap.size + 1 + 1, 1, none⟩ = some (.int .i64 0) := by simp [World.cell?, hO]
 have of1 : w4.frozen? ⟨w.heap.size + 1 + 1, 1, none⟩ = false := by simp [World.frozen?, hO]
 have o2 : w4.cell? ⟨w.heap.size + 1 + 1, 2, none⟩ = some (.slice none 0 0) := by simp [World.cell?, hO]
 have of2 : w4.frozen? ⟨w.heap.size + 1 + 1, 2, none⟩ = false := by simp [World.frozen?, hO]
 have o3 : w4.cell? ⟨w.heap.size + 1 + 1, 3, none⟩ = some (.int .u64 0) := by simp [World.cell?, hO]
 have of3 : w4.frozen? ⟨w.heap.size + 1 + 1, 3, none⟩ = false := by simp [World.frozen?, hO]
 have o4 : w4.cell? ⟨w.heap.size + 1 + 1, 4, none⟩ = some (.slice none 0 0) := by simp [World.cell?, hO]
 have of4 : w4.frozen? ⟨w.heap.size + 1 + 1, 4, none⟩ = false := by simp [World.frozen?, hO]
 have o5 : w4.cell? ⟨w.heap.size + 1 + 1, 5, none⟩ = some (.slice none 0 0) := by simp [World.cell?, hO]
 have of5 : w4.frozen? ⟨w.heap.size + 1 + 1, 5, none⟩ = false := by simp [World.frozen?, hO]
 have p0 : w4.cell? ⟨w.heap.size + 1 + 1 + 1, 0, none⟩ = some (.int .u64 0) := by simp [World.cell?, hP]
 have pf0 : w4.frozen? ⟨w.heap.size + 1 + 1 + 1, 0, none⟩ = false := by simp [World.frozen?, hP]
 have p1 : w4.cell? ⟨w.heap.size + 1 + 1 + 1, 1, none⟩ = some (.slice none 0 0) := by simp [World.cell?, hP]
 have pf1 : w4.frozen? ⟨w.heap.size + 1 + 1 + 1, 1, none⟩ = false := by simp [World.frozen?, hP]
 have p2 : w4.cell? ⟨w.heap.size + 1 + 1 + 1, 2, none⟩ = some (.bool false) := by simp [World.cell?, hP]
 have pf2 : w4.frozen? ⟨w.heap.size + 1 + 1 + 1, 2, none⟩ = false := by simp [World.frozen?, hP]
 have hPm : (setAll (w.heap.size + 1 + 1) 0 [.int .i64 T, .int .i64 C, .slice A9 q c9, .int .u64 (RN : Int), .slice A0 n c0, .slice A1 n c1] w4).heap[w.heap.size + 1 + 1 + 1]? = some (.cells #[.int .u64 0, .slice none 0 0, .bool false] 51 (0, 0)) := (setAll_other (g := w.heap.size + 1 + 1) (by omega) [.int .i64 T, .int .i64 C, .slice A9 q c9, .int .u64 (RN : Int), .slice A0 n c0, .slice A1 n c1] 0 w4).trans hP
 obtain ⟨wf, hwf⟩ : ∃ wf, wf = setAll (w.heap.size + 1 + 1 + 1) 0 [.int .u64 0, .slice none 0 0, .bool false] (setAll (w.heap.size + 1 + 1) 0 [.int .i64 T, .int .i64 C, .slice A9 q c9, .int .u64 (RN : Int), .slice A0 n c0, .slice A1 n c1] w4) := ⟨_, rfl⟩
 have hF : Ext w wf := hwf ▸ setAll_ext (g := w.heap.size + 1 + 1 + 1) (vs := [.int .u64 0, .slice none 0 0, .bool false]) (i := 0) (setAll_ext (g := w.heap.size + 1 + 1) (vs := [.int .i64 T, .int .i64 C, .slice A9 q c9, .int .u64 (RN : Int), .slice A0 n c0, .slice A1 n c1]) (i := 0) hW (by omega)) (by omega)
 have hfO : wf.heap[w.heap.size + 1 + 1]? = some (.cells #[.int .i64 T, .int .i64 C, .slice A9 q c9, .int .u64 (RN : Int), .slice A0 n c0, .slice A1 n c1] 32 (0, 0)) := hwf ▸ (setAll_other (g := w.heap.size + 1 + 1 + 1) (by omega) [.int .u64 0, .slice none 0 0, .bool false] 0 (setAll (w.heap.size + 1 + 1) 0 [.int .i64 T, .int .i64 C, .slice A9 q c9, .int .u64 (RN : Int), .slice A0 n c0, .slice A1 n c1] w4)).trans (setAll_all (vs := [.int .i64 T, .int .i64 C, .slice A9 q c9, .int .u64 (RN : Int), .slice A0 n c0, .slice A1 n c1]) hO rfl)
 have hfP : wf.heap[w.heap.size + 1 + 1 + 1]? = some (.cells #[.int .u64 0, .slice none 0 0, .bool false] 51 (0, 0)) := hwf ▸ setAll_all (vs := [.int .u64 0, .slice none 0 0, .bool false]) hPm rfl
 have hfd := (hdk.but (But.all (w.heap.size + 1 + 1) [.int .i64 T, .int .i64 C, .slice A9 q c9, .int .u64 (RN : Int), .slice A0 n c0, .slice A1 n c1] 0 w4) hO rfl).but (But.all (w.heap.size + 1 + 1 + 1) [.int .u64 0, .slice none 0 0, .bool false] 0 _) hPm rfl
 have hfb := BytesV.but (BytesV.but hby (But.all (w.heap.size + 1 + 1) [.int .i64 T, .int .i64 C, .slice A9 q c9, .int .u64 (RN : Int), .slice A0 n c0, .slice A1 n c1] 0 w4) hO rfl) (But.all (w.heap.size + 1 + 1 + 1) [.int .u64 0, .slice none 0 0, .bool false] 0 _) hPm rfl
 have hfw := WordsV.but (WordsV.but hwv hwl (But.all (w.heap.size + 1 + 1) [.int .i64 T, .int .i64 C, .slice A9 q c9, .int .u64 (RN : Int), .slice A0 n c0, .slice A1 n c1] 0 w4) hO rfl) hwl (But.all (w.heap.size + 1 + 1 + 1) [.int .u64 0, .slice none 0 0, .bool false] 0 _) hPm rfl
 rw [← hwf] at hfd hfb hfw
 simp only [setAll] at hwf
 have HWF := Lib.hid hwf
 clear hwf hE hO hP hPm hdk hby hwv hW
 go_wp2_with fail
 rw [← HWF.out]
 clear HWF e0 e1 e2 e3 e4 e5 o0 o1 o2 o3 o4 o5 of0 of1 of2 of3 of4 of5 p0 p1 p2 pf0 pf1 pf2
 have o0 : wf.cell? ⟨w.heap.size + 1 + 1, 0, none⟩ = some (.int .i64 T) := by simp [World.cell?, hfO]
 have o1 : wf.cell? ⟨w.heap.size + 1 + 1, 1, none⟩ = some (.int .i64 C) := by simp [World.cell?, hfO]
 have o2 : wf.cell? ⟨w.heap.size + 1 + 1, 2, none⟩ = some (.slice A9 q c9) := by simp [World.cell?, hfO]
 have o3 : wf.cell? ⟨w.heap.size + 1 + 1, 3, none⟩ = some (.int .u64 (RN : Int)) := by simp [World.cell?, hfO]
 have o4 : wf.cell? ⟨w.heap.size + 1 + 1, 4, none⟩ = some (.slice A0 n c0) := by simp [World.cell?, hfO]
 have o5 : wf.cell? ⟨w.heap.size + 1 + 1, 5, none⟩ = some (.slice A1 n c1) := by simp [World.cell?, hfO]
 have p0 : wf.cell? ⟨w.heap.size + 1 + 1 + 1, 0, none⟩ = some (.int .u64 0) := by simp [World.cell?, hfP]
 have p1 : wf.cell? ⟨w.heap.size + 1 + 1 + 1, 1, none⟩ = some (.slice none 0 0) := by simp [World.cell?, hfP]
 have p2 : wf.cell? ⟨w.heap.size + 1 + 1 + 1, 2, none⟩ = some (.bool false) := by simp [World.cell?, hfP]
 refine bodyPost_ret (v := .tuple #[.agg #[.int .i64 T, .int .i64 C, .slice A9 q c9, .int .u64 (RN : Int), .slice A0 n c0, .slice A1 n c1], .agg #[.int .u64 0, .slice none 0 0, .bool false]]) (by simp [results, Try.results19, go_sem, o0, o1, o2, o3, o4, o5, p0, p1, p2]) rfl ⟨_, _, rfl, ⟨_, _, _, _, _, _, _, rfl, hfw, hfd⟩, ⟨_, _, _, rfl, hfb⟩, hF⟩
set_option maxRecDepth 100000 in
set_option maxHeartbeats 2000000 in
theorem rdo_w2n (T C : Int) (A : Option Addr) (q c : Nat) (ws : List Int) (RN n : Nat) (A0 A1 : Option Addr) (c0 c1 : Nat) (K0 K1 : List Key) (me ce a b : Int) (D : Option Addr) (m cd : Nat) (B : Option Addr) (q2 cb : Nat) (dat : List UInt8) (wd : List Int) (w : World) (hA : WordsV w A q c ws) (hd : DkK w (.agg #[.int .u64 (RN : Int), .slice A0 n c0, .slice A1 n c1]) (RN : Int) n K0 K1)
  (hB : BytesV w D m cd dat) (hwd : WordsV w B q2 cb wd) (ha : 0 ≤ a ∧ a < 18446744073709551616) (hb : 0 ≤ b ∧ b < 18446744073709551616) {mF : Nat} (hF : Fit ⟨T, C, ws, RN, n, K0, K1⟩ mF) (fl : Bool) (hc0 : 0 ≤ ce) (hc1 : ce < (q : Int)) (hne : ¬ ws.getD ce.toNat 0 = a) :
  Calls Try.prog 19 #[.agg #[.int .i64 T, .int .i64 C, .slice A q c, .int .u64 (RN : Int), .slice A0 n c0, .slice A1 n c1], .int .i64 me, .agg #[.int .i64 2, .int .i64 ce, .int .u64 a, .int .u64 b, .slice D m cd, .slice B q2 cb], .bool fl] w (DoPost (⟨T, C, ws, RN, n, K0, K1⟩ : WldK) ⟨0, [], false⟩ w) := by
 have hlen := hA.len
 have hlen2 := hwd.len
 have hpos : 0 < n := hF.pos
 have hn : n ≤ 64 := hF.le
 have hn6 : n ≤ 65536 := by omega
 have hR : RN < 18446744073709551616 := by have := hF.root.2; simp only at this; omega
 have hws2 : 2 ≤ ws.length := hF.ws.1
 have hws6 : ws.length ≤ 65536 := hF.ws.2
 have hm0 : ∀ x ∈ K0, x.1.length + mF ≤ 65536 := hF.k0
 have hm1 : ∀ x ∈ K1, x.1.length + mF ≤ 65536 := hF.k1
 have hs0 : ∀ x ∈ K0, x.1.length ≤ 65536 := fun x hx => by have := hm0 x hx; omega
 have hs1 : ∀ x ∈ K1, x.1.length ≤ 65536 := fun x hx => by have := hm1 x hx; omega
 clear hF
 obtain ⟨rr, hrr, hr2⟩ : ∃ rr, RN % 2 = rr ∧ rr < 2 := ⟨_, rfl, Nat.mod_lt _ (by omega)⟩
 have hri : (RN : Int) % 2 = (rr : Int) := by omega
 have hsub : IntKind.i64.wrap (1 - (rr : Int)) = 1 - (rr : Int) := by rw [IntKind.wrap_i64]; omega
 have hm : Int.tmod (RN : Int) 2 = (rr : Int) := by rw [Int.tmod_eq_emod_of_nonneg (by omega)]; omega
 have hw1 : IntKind.u64.wrap (rr : Int) = (rr : Int) := by rw [IntKind.wrap_u64]; omega
 have hw2 : IntKind.i64.wrap (rr : Int) = (rr : Int) := by rw [IntKind.wrap_i64]; omega
 try rw [hri]
 clear hrr hri
 go_enter Try.func19, Try.ntmps19
 go_upto_region 1 with (fail)
 obtain ⟨hW, hE, hG, hO, hP⟩ := boxes4 w (.cells #[.int .i64 T, .int .i64 C, .slice A q c, .int .u64 (RN : Int), .slice A0 n c0, .slice A1 n c1] 32) (.cells #[.int .i64 2, .int .i64 ce, .int .u64 a, .int .u64 b, .slice D m cd, .slice B q2 cb] 42) (.cells #[.int .i64 0, .int .i64 0, .slice none 0 0, .int .u64 0, .slice none 0 0, .slice none 0 0] 32) (.cells #[.int .u64 0, .slice none 0 0, .bool false] 51)
 generalize (((w.alloc (.cells #[.int .i64 T, .int .i64 C, .slice A q c, .int .u64 (RN : Int), .slice A0 n c0, .slice A1 n c1] 32)).alloc (.cells #[.int .i64 2, .int .i64 ce, .int .u64 a, .int .u64 b, .slice D m cd, .slice B q2 cb] 42)).alloc (.cells #[.int .i64 0, .int .i64 0, .slice none 0 0, .int .u64 0, .slice none 0 0, .slice none 0 0] 32)).alloc (.cells #[.int .u64 0, .slice none 0 0, .bool false] 51) = W at *
 have hlt : w.heap.size + 1 + 1 + 1 < W.heap.size := (Array.getElem?_eq_some_iff.1 hP).1
 have e0 : W.cell? ⟨w.heap.size, 0, none⟩ = some (.int .i64 T) := by simp [World.cell?, hE]
 have e1 : W.cell? ⟨w.heap.size, 1, none⟩ = some (.int .i64 C) := by simp [World.cell?, hE]
 have e2 : W.cell? ⟨w.heap.size, 2, none⟩ = some (.slice A q c) := by simp [World.cell?, hE]
 have e3 : W.cell? ⟨w.heap.size, 3, none⟩ = some (.int .u64 (RN : Int)) := by simp [World.cell?, hE]
 have e4 : W.cell? ⟨w.heap.size, 4, none⟩ = some (.slice A0 n c0) := by simp [World.cell?, hE]
 have e5 : W.cell? ⟨w.heap.size, 5, none⟩ = some (.slice A1 n c1) := by simp [World.cell?, hE]
 have g0 : W.cell? ⟨w.heap.size + 1, 0, none⟩ = some (.int .i64 2) := by simp [World.cell?, hG]
 have g1 : W.cell? ⟨w.heap.size + 1, 1, none⟩ = some (.int .i64 ce) := by simp [World.cell?, hG]
 have g2 : W.cell? ⟨w.heap.size + 1, 2, none⟩ = some (.int .u64 a) := by simp [World.cell?, hG]
 have g3 : W.cell? ⟨w.heap.size + 1, 3, none⟩ = some (.int .u64 b) := by simp [World.cell?, hG]
 have g4 : W.cell? ⟨w.heap.size + 1, 4, none⟩ = some (.slice D m cd) := by simp [World.cell?, hG]
 have g5 : W.cell? ⟨w.heap.size + 1, 5, none⟩ = some (.slice B q2 cb) := by simp [World.cell?, hG]
 go_upto_region 2 with (fail)
 clear hm hw1 hw2
 obtain ⟨i, rfl⟩ := Int.eq_ofNat_of_zero_le hc0
 have hiq : i < q := by omega
 obtain ⟨a0, rfl, hac, hr1, hr2⟩ := hA.at hiq
 have hac' := hW.cell hac
 try simp only [Int.toNat_natCast] at *
 generalize hold : ws.getD i 0 = old at *
 have hiI : (i : Int) < (q : Int) := by omega
 have hne' : (old != a) = true := by simp [hne]
 go_upto_region 41 with (fail)
 clear e0 e1 e2 e3 e4 e5 g0 g1 g2 g3 g4 g5
 clear hac hac'
 have hdk := hd.ext hW
 have hwv := hA.ext hW
 have hby := bytes_nil W
 have hwl := hws2
 have e0 : W.cell? ⟨w.heap.size, 0, none⟩ = some (.int .i64 T) := by simp [World.cell?, hE]
 have e1 : W.cell? ⟨w.heap.size, 1, none⟩ = some (.int .i64 C) := by simp [World.cell?, hE]
 have e2 : W.cell? ⟨w.heap.size, 2, none⟩ = some (.slice (some a0) q c) := by simp [World.cell?, hE]
 have e3 : W.cell? ⟨w.heap.size, 3, none⟩ = some (.int .u64 (RN : Int)) := by simp [World.cell?, hE]
 have e4 : W.cell? ⟨w.heap.size, 4, none⟩ = some (.slice A0 n c0) := by simp [World.cell?, hE]
 have e5 : W.cell? ⟨w.heap.size, 5, none⟩ = some (.slice A1 n c1) := by simp [World.cell?, hE]
 have o0 : W.cell? ⟨w.heap.size + 1 + 1, 0, none⟩ = some (.int .i64 0) := by simp [World.cell?, hO]
 have of0 : W.frozen? ⟨w.heap.size + 1 + 1, 0, none⟩ = false := by simp [World.frozen?, hO]
 have o1 : W.cell? ⟨w.heap.size + 1 + 1, 1, none⟩ = some (.int .i64 0) := by simp [World.cell?, hO]
 have of1 : W.frozen? ⟨w.heap.size + 1 + 1, 1, none⟩ = false := by simp [World.frozen?, hO]
 have o2 : W.cell? ⟨w.heap.size + 1 + 1, 2, none⟩ = some (.slice none 0 0) := by simp [World.cell?, hO]
 have of2 : W.frozen? ⟨w.heap.size + 1 + 1, 2, none⟩ = false := by simp [World.frozen?, hO]
 have o3 : W.cell? ⟨w.heap.size + 1 + 1, 3, none⟩ = some (.int .u64 0) := by simp [World.cell?, hO]
 have of3 : W.frozen? ⟨w.heap.size + 1 + 1, 3, none⟩ = false := by simp [World.frozen?, hO]
 have o4 : W.cell? ⟨w.heap.size + 1 + 1, 4, none⟩ = some (.slice none 0 0) := by simp [World.cell?, hO]
 have of4 : W.frozen? ⟨w.heap.size + 1 + 1, 4, none⟩ = false := by simp [World.frozen?, hO]
 have o5 : W.cell? ⟨w.heap.size + 1 + 1, 5, none⟩ = some (.slice none 0 0) := by simp [World.cell?, hO]
 have of5 : W.frozen? ⟨w.heap.size + 1 + 1, 5, none⟩ = false := by simp [World.frozen?, hO]
 have p0 : W.cell? ⟨w.heap.size + 1 + 1 + 1, 0, none⟩ = some (.int .u64 0) := by simp [World.cell?, hP]
 have pf0 : W.frozen? ⟨w.heap.size + 1 + 1 + 1, 0, none⟩ = false := by simp [World.frozen?, hP]
 have p1 : W.cell? ⟨w.heap.size + 1 + 1 + 1, 1, none⟩ = some (.slice none 0 0) := by simp [World.cell?, hP]
 have pf1 : W.frozen? ⟨w.heap.size + 1 + 1 + 1, 1, none⟩ = false := by simp [World.frozen?, hP]
 have p2 : W.cell? ⟨w.heap.size + 1 + 1 + 1, 2, none⟩ = some (.bool false) := by simp [World.cell?, hP]
 have pf2 : W.frozen? ⟨w.heap.size + 1 + 1 + 1, 2, none⟩ = false := by simp [World.frozen?, hP]
 have hPm : (setAll (w.heap.size + 1 + 1) 0 [.int .i64 T, .int .i64 C, .slice (some a0) q c, .int .u64 (RN : Int), .slice A0 n c0, .slice A1 n c1] W).heap[w.heap.size + 1 + 1 + 1]? = some (.cells #[.int .u64 0, .slice none 0 0, .bool false] 51 (0, 0)) := (setAll_other (g := w.heap.size + 1 + 1) (by omega) [.int .i64 T, .int .i64 C, .slice (some a0) q c, .int .u64 (RN : Int), .slice A0 n c0, .slice A1 n c1] 0 W).trans hP
 obtain ⟨wf, hwf⟩ : ∃ wf, wf = setAll (w.heap.size + 1 + 1 + 1) 0 [.int .u64 0, .slice none 0 0, .bool false] (setAll (w.heap.size + 1 + 1) 0 [.int .i64 T, .int .i64 C, .slice (some a0) q c, .int .u64 (RN : Int), .slice A0 n c0, .slice A1 n c1] W) := ⟨_, rfl⟩
 have hF : Ext w wf := hwf ▸ setAll_ext (g := w.heap.size + 1 + 1 + 1) (vs := [.int .u64 0, .slice none 0 0, .bool false]) (i := 0) (setAll_ext (g := w.heap.size + 1 + 1) (vs := [.int .i64 T, .int .i64 C, .slice (some a0) q c, .int .u64 (RN : Int), .slice A0 n c0, .slice A1 n c1]) (i := 0) hW (by omega)) (by omega)
 have hfO : wf.heap[w.heap.size + 1 + 1]? = some (.cells #[.int .i64 T, .int .i64 C, .slice (some a0) q c, .int .u64 (RN : Int), .slice A0 n c0, .slice A1 n c1] 32 (0, 0)) := hwf ▸ (setAll_other (g := w.heap.size + 1 + 1 + 1) (by omega) [.int .u64 0, .slice none 0 0, .bool false] 0 (setAll (w.heap.size + 1 + 1) 0 [.int .i64 T, .int .i64 C, .slice (some a0) q c, .int .u64 (RN : Int), .slice A0 n c0, .slice A1 n c1] W)).trans (setAll_all (vs := [.int .i64 T, .int .i64 C, .slice (some a0) q c, .int .u64 (RN : Int), .slice A0 n c0, .slice A1 n c1]) hO rfl)
 have hfP : wf.heap[w.heap.size + 1 + 1 + 1]? = some (.cells #[.int .u64 0, .slice none 0 0, .bool false] 51 (0, 0)) := hwf ▸ setAll_all (vs := [.int .u64 0, .slice none 0 0, .bool false]) hPm rfl
 have hfd := (hdk.but (But.all (w.heap.size + 1 + 1) [.int .i64 T, .int .i64 C, .slice (some a0) q c, .int .u64 (RN : Int), .slice A0 n c0, .slice A1 n c1] 0 W) hO rfl).but (But.all (w.heap.size + 1 + 1 + 1) [.int .u64 0, .slice none 0 0, .bool false] 0 _) hPm rfl
 have hfb := BytesV.but (BytesV.but hby (But.all (w.heap.size + 1 + 1) [.int .i64 T, .int .i64 C, .slice (some a0) q c, .int .u64 (RN : Int), .slice A0 n c0, .slice A1 n c1] 0 W) hO rfl) (But.all (w.heap.size + 1 + 1 + 1) [.int .u64 0, .slice none 0 0, .bool false] 0 _) hPm rfl
 have hfw := WordsV.but (WordsV.but hwv hwl (But.all (w.heap.size + 1 + 1) [.int .i64 T, .int .i64 C, .slice (some a0) q c, .int .u64 (RN : Int), .slice A0 n c0, .slice A1 n c1] 0 W) hO rfl) hwl (But.all (w.heap.size + 1 + 1 + 1) [.int .u64 0, .slice none 0 0, .bool false] 0 _) hPm rfl
 rw [← hwf] at hfd hfb hfw
 simp only [setAll] at hwf
 have HWF := Lib.hid hwf
 clear hwf hE hO hP hPm hdk hby hwv hW
 go_wp2_with fail
 rw [← HWF.out]
 clear HWF e0 e1 e2 e3 e4 e5 o0 o1 o2 o3 o4 o5 of0 of1 of2 of3 of4 of5 p0 p1 p2 pf0 pf1 pf2
 have o0 : wf.cell? ⟨w.heap.size + 1 + 1, 0, none⟩ = some (.int .i64 T) := by simp [World.cell?, hfO]
 have o1 : wf.cell? ⟨w.heap.size + 1 + 1, 1, none⟩ = some (.int .i64 C) := by simp [World.cell?, hfO]
 have o2 : wf.cell? ⟨w.heap.size + 1 + 1, 2, none⟩ = some (.slice (some a0) q c) := by simp [World.cell?, hfO]
 have o3 : wf.cell? ⟨w.heap.size + 1 + 1, 3, none⟩ = some (.int .u64 (RN : Int)) := by simp [World.cell?, hfO]
 have o4 : wf.cell? ⟨w.heap.size + 1 + 1, 4, none⟩ = some (.slice A0 n c0) := by simp [World.cell?, hfO]
 have o5 : wf.cell? ⟨w.heap.size + 1 + 1, 5, none⟩ = some (.slice A1 n c1) := by simp [World.cell?, hfO]
 have p0 : wf.cell? ⟨w.heap.size + 1 + 1 + 1, 0, none⟩ = some (.int .u64 0) := by simp [World.cell?, hfP]
 have p1 : wf.cell? ⟨w.heap.size + 1 + 1 + 1, 1, none⟩ = some (.slice none 0 0) := by simp [World.cell?, hfP]
 have p2 : wf.cell? ⟨w.heap.size + 1 + 1 + 1, 2, none⟩ = some (.bool false) := by simp [World.cell?, hfP]
 refine bodyPost_ret (v := .tuple #[.agg #[.int .i64 T, .int .i64 C, .slice (some a0) q c, .int .u64 (RN : Int), .slice A0 n c0, .slice A1 n c1], .agg #[.int .u64 0, .slice none 0 0, .bool false]]) (by simp [results, Try.results19, go_sem, o0, o1, o2, o3, o4, o5, p0, p1, p2]) rfl ⟨_, _, rfl, ⟨_, _, _, _, _, _, _, rfl, hfw, hfd⟩, ⟨_, _, _, rfl, hfb⟩, hF⟩
set_option maxRecDepth 100000 in
set_option maxHeartbeats 2000000 in
theorem rdo_w2y (T C : Int) (A : Option Addr) (q c : Nat) (ws : List Int) (RN n : Nat) (A0 A1 : Option Addr) (c0 c1 : Nat) (K0 K1 : List Key) (me ce a b : Int) (D : Option Addr) (m cd : Nat) (B : Option Addr) (q2 cb : Nat) (dat : List UInt8) (wd : List Int) (w : World) (hA : WordsV w A q c ws) (hd : DkK w (.agg #[.int .u64 (RN : Int), .slice A0 n c0, .slice A1 n c1]) (RN : Int) n K0 K1)
  (hB : BytesV w D m cd dat) (hwd : WordsV w B q2 cb wd) (ha : 0 ≤ a ∧ a < 18446744073709551616) (hb : 0 ≤ b ∧ b < 18446744073709551616) {mF : Nat} (hF : Fit ⟨T, C, ws, RN, n, K0, K1⟩ mF) (fl : Bool) (hc0 : 0 ≤ ce) (hc1 : ce < (q : Int)) (hne : ws.getD ce.toNat 0 = a) :
  Calls Try.prog 19 #[.agg #[.int .i64 T, .int .i64 C, .slice A q c, .int .u64 (RN : Int), .slice A0 n c0, .slice A1 n c1], .int .i64 me, .agg #[.int .i64 2, .int .i64 ce, .int .u64 a, .int .u64 b, .slice D m cd, .slice B q2 cb], .bool fl] w (DoPost (⟨T, C, ws.set ce.toNat b, RN, n, K0, K1⟩ : WldK) ⟨1, [], false⟩ w) := by
 have hlen := hA.len
 have hlen2 := hwd.len
 have hpos : 0 < n := hF.pos
 have hn : n ≤ 64 := hF.le
 have hn6 : n ≤ 65536 := by omega
 have hR : RN < 18446744073709551616 := by have := hF.root.2; simp only at this; omega
 have hws2 : 2 ≤ ws.length := hF.ws.1
 have hws6 : ws.length ≤ 65536 := hF.ws.2
 have hm0 : ∀ x ∈ K0, x.1.length + mF ≤ 65536 := hF.k0
 have hm1 : ∀ x ∈ K1, x.1.length + mF ≤ 65536 := hF.k1
 have hs0 : ∀ x ∈ K0, x.1.length ≤ 65536 := fun x hx => by have := hm0 x hx; omega
 have hs1 : ∀ x ∈ K1, x.1.length ≤ 65536 := fun x hx => by have := hm1 x hx; omega
 clear hF
 obtain ⟨rr, hrr, hr2⟩ : ∃ rr, RN % 2 = rr ∧ rr < 2 := ⟨_, rfl, Nat.mod_lt _ (by omega)⟩
 have hri : (RN : Int) % 2 = (rr : Int) := by omega
 have hsub : IntKind.i64.wrap (1 - (rr : Int)) = 1 - (rr : Int) := by rw [IntKind.wrap_i64]; omega
 have hm : Int.tmod (RN : Int) 2 = (rr : Int) := by rw [Int.tmod_eq_emod_of_nonneg (by omega)]; omega
 have hw1 : IntKind.u64.wrap (rr : Int) = (rr : Int) := by rw [IntKind.wrap_u64]; omega
 have hw2 : IntKind.i64.wrap (rr : Int) = (rr : Int) := by rw [IntKind.wrap_i64]; omega
 try rw [hri]
 clear hrr hri
 go_enter Try.func19, Try.ntmps19
 go_upto_region 1 with (fail)
 obtain ⟨hW, hE, hG, hO, hP⟩ := boxes4 w (.cells #[.int .i64 T, .int .i64 C, .slice A q c, .int .u64 (RN : Int), .slice A0 n c0, .slice A1 n c1] 32) (.cells #[.int .i64 2, .int .i64 ce, .int .u64 a, .int .u64 b, .slice D m cd, .slice B q2 cb] 42) (.cells #[.int .i64 0, .int .i64 0, .slice none 0 0, .int .u64 0, .slice none 0 0, .slice none 0 0] 32) (.cells #[.int .u64 0, .slice none 0 0, .bool false] 51)
 generalize (((w.alloc (.cells #[.int .i64 T, .int .i64 C, .slice A q c, .int .u64 (RN : Int), .slice A0 n c0, .slice A1 n c1] 32)).alloc (.cells #[.int .i64 2, .int .i64 ce, .int .u64 a, .int .u64 b, .slice D m cd, .slice B q2 cb] 42)).alloc (.cells #[.int .i64 0, .int .i64 0, .slice none 0 0, .int .u64 0, .slice none 0 0, .slice none 0 0] 32)).alloc (.cells #[.int .u64 0, .slice none 0 0, .bool false] 51) = W at *
 have hlt : w.heap.size + 1 + 1 + 1 < W.heap.size := (Array.getElem?_eq_some_iff.1 hP).1
 have e0 : W.cell? ⟨w.heap.size, 0, none⟩ = some (.int .i64 T) := by simp [World.cell?, hE]
 have e1 : W.cell? ⟨w.heap.size, 1, none⟩ = some (.int .i64 C) := by simp [World.cell?, hE]
 have e2 : W.cell? ⟨w.heap.size, 2, none⟩ = some (.slice A q c) := by simp [World.cell?, hE]
 have e3 : W.cell? ⟨w.heap.size, 3, none⟩ = some (.int .u64 (RN : Int)) := by simp [World.cell?, hE]
 have e4 : W.cell? ⟨w.heap.size, 4, none⟩ = some (.slice A0 n c0) := by simp [World.cell?, hE]
 have e5 : W.cell? ⟨w.heap.size, 5, none⟩ = some (.slice A1 n c1) := by simp [World.cell?, hE]
 have g0 : W.cell? ⟨w.heap.size + 1, 0, none⟩ = some (.int .i64 2) := by simp [World.cell?, hG]
 have g1 : W.cell? ⟨w.heap.size + 1, 1, none⟩ = some (.int .i64 ce) := by simp [World.cell?, hG]
 have g2 : W.cell? ⟨w.heap.size + 1, 2, none⟩ = some (.int .u64 a) := by simp [World.cell?, hG]
 have g3 : W.cell? ⟨w.heap.size + 1, 3, none⟩ = some (.int .u64 b) := by simp [World.cell?, hG]
 have g4 : W.cell? ⟨w.heap.size + 1, 4, none⟩ = some (.slice D m cd) := by simp [World.cell?, hG]
 have g5 : W.cell? ⟨w.heap.size + 1, 5, none⟩ = some (.slice B q2 cb) := by simp [World.cell?, hG]
 go_upto_region 2 with (fail)
 clear hm hw1 hw2
 obtain ⟨i, rfl⟩ := Int.eq_ofNat_of_zero_le hc0
 have hiq : i < q := by omega
 obtain ⟨a0, rfl, hac, hr1, hr2⟩ := hA.at hiq
 have hac' := hW.cell hac
 try simp only [Int.toNat_natCast] at *
 generalize hold : ws.getD i 0 = old at *
 have hiI : (i : Int) < (q : Int) := by omega
 subst hne
 go_wp2_with fail
 refine (rwith_any T C (some a0) q c ws i b _ (hA.ext hW) hiq (by omega) (by omega)).mono ?_
 rintro e w3 ⟨A9, c9, rfl, hwv, hx⟩
 replace hE := heap_ext hE hx
 replace hG := heap_ext hG hx
 replace hO := heap_ext hO hx
 replace hP := heap_ext hP hx
 replace hW := hW.trans hx
 clear e0 e1 e2 e3 e4 e5 g0 g1 g2 g3 g4 g5
 clear hx hac hac'
 have e0 : w3.cell? ⟨w.heap.size, 0, none⟩ = some (.int .i64 T) := by simp [World.cell?, hE]
 have ef0 : w3.frozen? ⟨w.heap.size, 0, none⟩ = false := by simp [World.frozen?, hE]
 have e1 : w3.cell? ⟨w.heap.size, 1, none⟩ = some (.int .i64 C) := by simp [World.cell?, hE]
 have ef1 : w3.frozen? ⟨w.heap.size, 1, none⟩ = false := by simp [World.frozen?, hE]
 have e2 : w3.cell? ⟨w.heap.size, 2, none⟩ = some (.slice (some a0) q c) := by simp [World.cell?, hE]
 have ef2 : w3.frozen? ⟨w.heap.size, 2, none⟩ = false := by simp [World.frozen?, hE]
 have e3 : w3.cell? ⟨w.heap.size, 3, none⟩ = some (.int .u64 (RN : Int)) := by simp [World.cell?, hE]
 have ef3 : w3.frozen? ⟨w.heap.size, 3, none⟩ = false := by simp [World.frozen?, hE]
 have e4 : w3.cell? ⟨w.heap.size, 4, none⟩ = some (.slice A0 n c0) := by simp [World.cell?, hE]
 have ef4 : w3.frozen? ⟨w.heap.size, 4, none⟩ = false := by simp [World.frozen?, hE]
 have e5 : w3.cell? ⟨w.heap.size, 5, none⟩ = some (.slice A1 n c1) := by simp [World.cell?, hE]
 have ef5 : w3.frozen? ⟨w.heap.size, 5, none⟩ = false := by simp [World.frozen?, hE]
 go_upto_region 43 with (fail)
 have hwl : 2 ≤ (ws.set i b).length := by simp; omega
 have hE3 : (((w3.setCell ⟨w.heap.size, 0, none⟩ (.int .i64 T)).setCell ⟨w.heap.size, 1, none⟩ (.int .i64 C)).setCell ⟨w.heap.size, 2, none⟩ (.slice A9 q c9)).heap[w.heap.size]? = some (.cells #[.int .i64 T, .int .i64 C, .slice A9 q c9, .int .u64 (RN : Int), .slice A0 n c0, .slice A1 n c1] 32 (0, 0)) := heap_setCell_at (heap_setCell_at (heap_setCell_at hE))
 have hO3 : (((w3.setCell ⟨w.heap.size, 0, none⟩ (.int .i64 T)).setCell ⟨w.heap.size, 1, none⟩ (.int .i64 C)).setCell ⟨w.heap.size, 2, none⟩ (.slice A9 q c9)).heap[w.heap.size + 1 + 1]? = some (.cells #[.int .i64 0, .int .i64 0, .slice none 0 0, .int .u64 0, .slice none 0 0, .slice none 0 0] 32 (0, 0)) := (setAll_other (g := w.heap.size) (by omega) [.int .i64 T, .int .i64 C, .slice A9 q c9] 0 w3).trans hO
 have hP3 : (((w3.setCell ⟨w.heap.size, 0, none⟩ (.int .i64 T)).setCell ⟨w.heap.size, 1, none⟩ (.int .i64 C)).setCell ⟨w.heap.size, 2, none⟩ (.slice A9 q c9)).heap[w.heap.size + 1 + 1 + 1]? = some (.cells #[.int .u64 0, .slice none 0 0, .bool false] 51 (0, 0)) := (setAll_other (g := w.heap.size) (by omega) [.int .i64 T, .int .i64 C, .slice A9 q c9] 0 w3).trans hP
 have hW3 : Ext w (((w3.setCell ⟨w.heap.size, 0, none⟩ (.int .i64 T)).setCell ⟨w.heap.size, 1, none⟩ (.int .i64 C)).setCell ⟨w.heap.size, 2, none⟩ (.slice A9 q c9)) := setAll_ext (g := w.heap.size) (vs := [.int .i64 T, .int .i64 C, .slice A9 q c9]) (i := 0) hW (Nat.le_refl _)
 replace hwv := WordsV.but hwv hwl (But.all w.heap.size [.int .i64 T, .int .i64 C, .slice A9 q c9] 0 w3) hE rfl
 change WordsV (((w3.setCell ⟨w.heap.size, 0, none⟩ (.int .i64 T)).setCell ⟨w.heap.size, 1, none⟩ (.int .i64 C)).setCell ⟨w.heap.size, 2, none⟩ (.slice A9 q c9)) _ _ _ _ at hwv
 clear e0 e1 e2 e3 e4 e5 ef0 ef1 ef2 ef3 ef4 ef5 hE hG hO hP hW
 generalize (((w3.setCell ⟨w.heap.size, 0, none⟩ (.int .i64 T)).setCell ⟨w.heap.size, 1, none⟩ (.int .i64 C)).setCell ⟨w.heap.size, 2, none⟩ (.slice A9 q c9)) = w4 at *
 have hE := hE3
 have hO := hO3
 have hP := hP3
 have hW := hW3
 clear hE3 hO3 hP3 hW3
 have hdk := hd.ext hW
 have hby := bytes_nil w4
 have e0 : w4.cell? ⟨w.heap.size, 0, none⟩ = some (.int .i64 T) := by simp [World.cell?, hE]
 have e1 : w4.cell? ⟨w.heap.size, 1, none⟩ = some (.int .i64 C) := by simp [World.cell?, hE]
 have e2 : w4.cell? ⟨w.heap.size, 2, none⟩ = some (.slice A9 q c9) := by simp [World.cell?, hE]
 have e3 : w4.cell? ⟨w.heap.size, 3, none⟩ = some (.int .u64 (RN : Int)) := by simp [World.cell?, hE]
 have e4 : w4.cell? ⟨w.heap.size, 4, none⟩ = some (.slice A0 n c0) := by simp [World.cell?, hE]
 have e5 : w4.cell? ⟨w.heap.size, 5, none⟩ = some (.slice A1 n c1) := by simp [World.cell?, hE]
 have o0 : w4.cell? ⟨w.heap.size + 1 + 1, 0, none⟩ = some (.int .i64 0) := by simp [World.cell?, hO]
 have of0 : w4.frozen? ⟨w.heap.size + 1 + 1, 0, none⟩ = false := by simp [World.frozen?, hO]
 have o1 : w4.cell? ⟨w.heap.size + 1 + 1, 1, none⟩ = some (.int .i64 0) := by simp [World.cell?, hO]
 have of1 : w4.frozen? ⟨w.heap.size + 1 + 1, 1, none⟩ = false := by simp [World.frozen?, hO]
 have o2 : w4.cell? ⟨w.heap.size + 1 + 1, 2, none⟩ = some (.slice none 0 0) := by simp [World.cell?, hO]
 have of2 : w4.frozen? ⟨w.heap.size + 1 + 1, 2, none⟩ = false := by simp [World.frozen?, hO]
 have o3 : w4.cell? ⟨w.heap.size + 1 + 1, 3, none⟩ = some (.int .u64 0) := by simp [World.cell?, hO]
 have of3 : w4.frozen? ⟨w.heap.size + 1 + 1, 3, none⟩ = false := by simp [World.frozen?, hO]
 have o4 : w4.cell? ⟨w.heap.size + 1 + 1, 4, none⟩ = some (.slice none 0 0) := by simp [World.cell?, hO]
 have of4 : w4.frozen? ⟨w.heap.size + 1 + 1, 4, none⟩ = false := by simp [World.frozen?, hO]
 have o5 : w4.cell? ⟨w.heap.size + 1 + 1, 5, none⟩ = some (.slice none 0 0) := by simp [World.cell?, hO]
 have of5 : w4.frozen? ⟨w.heap.size + 1 + 1, 5, none⟩ = false := by simp [World.frozen?, hO]
 have p0 : w4.cell? ⟨w.heap.size + 1 + 1 + 1, 0, none⟩ = some (.int .u64 0) := by simp [World.cell?, hP]
 have pf0 : w4.frozen? ⟨w.heap.size + 1 + 1 + 1, 0, none⟩ = false := by simp [World.frozen?, hP]
 have p1 : w4.cell? ⟨w.heap.size + 1 + 1 + 1, 1, none⟩ = some (.slice none 0 0) := by simp [World.cell?, hP]
 have pf1 : w4.frozen? ⟨w.heap.size + 1 + 1 + 1, 1, none⟩ = false := by simp [World.frozen?, hP]
 have p2 : w4.cell? ⟨w.heap.size + 1 + 1 + 1, 2, none⟩ = some (.bool false) := by simp [World.cell?, hP]
 have pf2 : w4.frozen? ⟨w.heap.size + 1 + 1 + 1, 2, none⟩ = false := by simp [World.frozen?, hP]
 have hPm : (setAll (w.heap.size + 1 + 1) 0 [.int .i64 T, .int .i64 C, .slice A9 q c9, .int .u64 (RN : Int), .slice A0 n c0, .slice A1 n c1] w4).heap[w.heap.size + 1 + 1 + 1]? = some (.cells #[.int .u64 0, .slice none 0 0, .bool false] 51 (0, 0)) := (setAll_other (g := w.heap.size + 1 + 1) (by omega) [.int .i64 T, .int .i64 C, .slice A9 q c9, .int .u64 (RN : Int), .slice A0 n c0, .slice A1 n c1] 0 w4).trans hP
 obtain ⟨wf, hwf⟩ : ∃ wf, wf = setAll (w.heap.size + 1 + 1 + 1) 0 [.int .u64 1, .slice none 0 0, .bool false] (setAll (w.heap.size + 1 + 1) 0 [.int .i64 T, .int .i64 C, .slice A9 q c9, .int .u64 (RN : Int), .slice A0 n c0, .slice A1 n c1] w4) := ⟨_, rfl⟩
 have hF : Ext w wf := hwf ▸ setAll_ext (g := w.heap.size + 1 + 1 + 1) (vs := [.int .u64 1, .slice none 0 0, .bool false]) (i := 0) (setAll_ext (g := w.heap.size + 1 + 1) (vs := [.int .i64 T, .int .i64 C, .slice A9 q c9, .int .u64 (RN : Int), .slice A0 n c0, .slice A1 n c1]) (i := 0) hW (by omega)) (by omega)
 have hfO : wf.heap[w.heap.size + 1 + 1]? = some (.cells #[.int .i64 T, .int .i64 C, .slice A9 q c9, .int .u64 (RN : Int), .slice A0 n c0, .slice A1 n c1] 32 (0, 0)) := hwf ▸ (setAll_other (g := w.heap.size + 1 + 1 + 1) (by omega) [.int .u64 1, .slice none 0 0, .bool false] 0 (setAll (w.heap.size + 1 + 1) 0 [.int .i64 T, .int .i64 C, .slice A9 q c9, .int .u64 (RN : Int), .slice A0 n c0, .slice A1 n c1] w4)).trans (setAll_all (vs := [.int .i64 T, .int .i64 C, .slice A9 q c9, .int .u64 (RN : Int), .slice A0 n c0, .slice A1 n c1]) hO rfl)
 have hfP : wf.heap[w.heap.size + 1 + 1 + 1]? = some (.cells #[.int .u64 1, .slice none 0 0, .bool false] 51 (0, 0)) := hwf ▸ setAll_all (vs := [.int .u64 1, .slice none 0 0, .bool false]) hPm rfl
 have hfd := (hdk.but (But.all (w.heap.size + 1 + 1) [.int .i64 T, .int .i64 C, .slice A9 q c9, .int .u64 (RN : Int), .slice A0 n c0, .slice A1 n c1] 0 w4) hO rfl).but (But.all (w.heap.size + 1 + 1 + 1) [.int .u64 1, .slice none 0 0, .bool false] 0 _) hPm rfl
 have hfb := BytesV.but (BytesV.but hby (But.all (w.heap.size + 1 + 1) [.int .i64 T, .int .i64 C, .slice A9 q c9, .int .u64 (RN : Int), .slice A0 n c0, .slice A1 n c1] 0 w4) hO rfl) (But.all (w.heap.size + 1 + 1 + 1) [.int .u64 1, .slice none 0 0, .bool false] 0 _) hPm rfl
 have hfw := WordsV.but (WordsV.but hwv hwl (But.all (w.heap.size + 1 + 1) [.int .i64 T, .int .i64 C, .slice A9 q c9, .int .u64 (RN : Int), .slice A0 n c0, .slice A1 n c1] 0 w4) hO rfl) hwl (But.all (w.heap.size + 1 + 1 + 1) [.int .u64 1, .slice none 0 0, .bool false] 0 _) hPm rfl
 rw [← hwf] at hfd hfb hfw
 simp only [setAll] at hwf
 have HWF := Lib.hid hwf
 clear hwf hE hO hP hPm hdk hby hwv hW
 go_wp2_with fail
 rw [← HWF.out]
 clear HWF e0 e1 e2 e3 e4 e5 o0 o1 o2 o3 o4 o5 of0 of1 of2 of3 of4 of5 p0 p1 p2 pf0 pf1 pf2
 have o0 : wf.cell? ⟨w.heap.size + 1 + 1, 0, none⟩ = some (.int .i64 T) := by simp [World.cell?, hfO]
 have o1 : wf.cell? ⟨w.heap.size + 1 + 1, 1, none⟩ = some (.int .i64 C) := by simp [World.cell?, hfO]
 have o2 : wf.cell? ⟨w.heap.size + 1 + 1, 2, none⟩ = some (.slice A9 q c9) := by simp [World.cell?, hfO]
 have o3 : wf.cell? ⟨w.heap.size + 1 + 1, 3, none⟩ = some (.int .u64 (RN : Int)) := by simp [World.cell?, hfO]
 have o4 : wf.cell? ⟨w.heap.size + 1 + 1, 4, none⟩ = some (.slice A0 n c0) := by simp [World.cell?, hfO]
 have o5 : wf.cell? ⟨w.heap.size + 1 + 1, 5, none⟩ = some (.slice A1 n c1) := by simp [World.cell?, hfO]
 have p0 : wf.cell? ⟨w.heap.size + 1 + 1 + 1, 0, none⟩ = some (.int .u64 1) := by simp [World.cell?, hfP]
 have p1 : wf.cell? ⟨w.heap.size + 1 + 1 + 1, 1, none⟩ = some (.slice none 0 0) := by simp [World.cell?, hfP]
 have p2 : wf.cell? ⟨w.heap.size + 1 + 1 + 1, 2, none⟩ = some (.bool false) := by simp [World.cell?, hfP]
 refine bodyPost_ret (v := .tuple #[.agg #[.int .i64 T, .int .i64 C, .slice A9 q c9, .int .u64 (RN : Int), .slice A0 n c0, .slice A1 n c1], .agg #[.int .u64 1, .slice none 0 0, .bool false]]) (by simp [results, Try.results19, go_sem, o0, o1, o2, o3, o4, o5, p0, p1, p2]) rfl ⟨_, _, rfl, ⟨_, _, _, _, _, _, _, rfl, hfw, hfd⟩, ⟨_, _, _, rfl, hfb⟩, hF⟩
set_option maxRecDepth 100000 in
set_option maxHeartbeats 2000000 in
theorem rdo_w3 (T C : Int) (A : Option Addr) (q c : Nat) (ws : List Int) (RN n : Nat) (A0 A1 : Option Addr) (c0 c1 : Nat) (K0 K1 : List Key) (me ce a b : Int) (D : Option Addr) (m cd : Nat) (B : Option Addr) (q2 cb : Nat) (dat : List UInt8) (wd : List Int) (w : World) (hA : WordsV w A q c ws) (hd : DkK w (.agg #[.int .u64 (RN : Int), .slice A0 n c0, .slice A1 n c1]) (RN : Int) n K0 K1)
  (hB : BytesV w D m cd dat) (hwd : WordsV w B q2 cb wd) (ha : 0 ≤ a ∧ a < 18446744073709551616) (hb : 0 ≤ b ∧ b < 18446744073709551616) {mF : Nat} (hF : Fit ⟨T, C, ws, RN, n, K0, K1⟩ mF) (fl : Bool) (hc0 : 0 ≤ ce) (hc1 : ce < (q : Int))  :
  Calls Try.prog 19 #[.agg #[.int .i64 T, .int .i64 C, .slice A q c, .int .u64 (RN : Int), .slice A0 n c0, .slice A1 n c1], .int .i64 me, .agg #[.int .i64 3, .int .i64 ce, .int .u64 a, .int .u64 b, .slice D m cd, .slice B q2 cb], .bool fl] w (DoPost (⟨T, C, ws.set ce.toNat (((ws.getD ce.toNat 0) + a) % 18446744073709551616), RN, n, K0, K1⟩ : WldK) ⟨(ws.getD ce.toNat 0), [], false⟩ w) := by
 have hlen := hA.len
 have hlen2 := hwd.len
 have hpos : 0 < n := hF.pos
 have hn : n ≤ 64 := hF.le
 have hn6 : n ≤ 65536 := by omega
 have hR : RN < 18446744073709551616 := by have := hF.root.2; simp only at this; omega
 have hws2 : 2 ≤ ws.length := hF.ws.1
 have hws6 : ws.length ≤ 65536 := hF.ws.2
 have hm0 : ∀ x ∈ K0, x.1.length + mF ≤ 65536 := hF.k0
 have hm1 : ∀ x ∈ K1, x.1.length + mF ≤ 65536 := hF.k1
 have hs0 : ∀ x ∈ K0, x.1.length ≤ 65536 := fun x hx => by have := hm0 x hx; omega
 have hs1 : ∀ x ∈ K1, x.1.length ≤ 65536 := fun x hx => by have := hm1 x hx; omega
 clear hF
 obtain ⟨rr, hrr, hr2⟩ : ∃ rr, RN % 2 = rr ∧ rr < 2 := ⟨_, rfl, Nat.mod_lt _ (by omega)⟩
 have hri : (RN : Int) % 2 = (rr : Int) := by omega
 have hsub : IntKind.i64.wrap (1 - (rr : Int)) = 1 - (rr : Int) := by rw [IntKind.wrap_i64]; omega
 have hm : Int.tmod (RN : Int) 2 = (rr : Int) := by rw [Int.tmod_eq_emod_of_nonneg (by omega)]; omega
 have hw1 : IntKind.u64.wrap (rr : Int) = (rr : Int) := by rw [IntKind.wrap_u64]; omega
 have hw2 : IntKind.i64.wrap (rr : Int) = (rr : Int) := by rw [IntKind.wrap_i64]; omega
 try rw [hri]
 clear hrr hri
 go_enter Try.func19, Try.ntmps19
 go_upto_region 1 with (fail)
 obtain ⟨hW, hE, hG, hO, hP⟩ := boxes4 w (.cells #[.int .i64 T, .int .i64 C, .slice A q c, .int .u64 (RN : Int), .slice A0 n c0, .slice A1 n c1] 32) (.cells #[.int .i64 3, .int .i64 ce, .int .u64 a, .int .u64 b, .slice D m cd, .slice B q2 cb] 42) (.cells #[.int .i64 0, .int .i64 0, .slice none 0 0, .int .u64 0, .slice none 0 0, .slice none 0 0] 32) (.cells #[.int .u64 0, .slice none 0 0, .bool false] 51)
 generalize (((w.alloc (.cells #[.int .i64 T, .int .i64 C, .slice A q c, .int .u64 (RN : Int), .slice A0 n c0, .slice A1 n c1] 32)).alloc (.cells #[.int .i64 3, .int .i64 ce, .int .u64 a, .int .u64 b, .slice D m cd, .slice B q2 cb] 42)).alloc (.cells #[.int .i64 0, .int .i64 0, .slice none 0 0, .int .u64 0, .slice none 0 0, .slice none 0 0] 32)).alloc (.cells #[.int .u64 0, .slice none 0 0, .bool false] 51) = W at *
 have hlt : w.heap.size + 1 + 1 + 1 < W.heap.size := (Array.getElem?_eq_some_iff.1 hP).1
 have e0 : W.cell? ⟨w.heap.size, 0, none⟩ = some (.int .i64 T) := by simp [World.cell?, hE]
 have e1 : W.cell? ⟨w.heap.size, 1, none⟩ = some (.int .i64 C) := by simp [World.cell?, hE]
 have e2 : W.cell? ⟨w.heap.size, 2, none⟩ = some (.slice A q c) := by simp [World.cell?, hE]
 have e3 : W.cell? ⟨w.heap.size, 3, none⟩ = some (.int .u64 (RN : Int)) := by simp [World.cell?, hE]
 have e4 : W.cell? ⟨w.heap.size, 4, none⟩ = some (.slice A0 n c0) := by simp [World.cell?, hE]
 have e5 : W.cell? ⟨w.heap.size, 5, none⟩ = some (.slice A1 n c1) := by simp [World.cell?, hE]
 have g0 : W.cell? ⟨w.heap.size + 1, 0, none⟩ = some (.int .i64 3) := by simp [World.cell?, hG]
 have g1 : W.cell? ⟨w.heap.size + 1, 1, none⟩ = some (.int .i64 ce) := by simp [World.cell?, hG]
 have g2 : W.cell? ⟨w.heap.size + 1, 2, none⟩ = some (.int .u64 a) := by simp [World.cell?, hG]
 have g3 : W.cell? ⟨w.heap.size + 1, 3, none⟩ = some (.int .u64 b) := by simp [World.cell?, hG]
 have g4 : W.cell? ⟨w.heap.size + 1, 4, none⟩ = some (.slice D m cd) := by simp [World.cell?, hG]
 have g5 : W.cell? ⟨w.heap.size + 1, 5, none⟩ = some (.slice B q2 cb) := by simp [World.cell?, hG]
 go_upto_region 2 with (fail)
 clear hm hw1 hw2
 obtain ⟨i, rfl⟩ := Int.eq_ofNat_of_zero_le hc0
 have hiq : i < q := by omega
 obtain ⟨a0, rfl, hac, hr1, hr2⟩ := hA.at hiq
 have hac' := hW.cell hac
 try simp only [Int.toNat_natCast] at *
 generalize hold : ws.getD i 0 = old at *
 have hiI : (i : Int) < (q : Int) := by omega
 have hwr : IntKind.u64.wrap (old + a) = (old + a) % 18446744073709551616 := IntKind.wrap_u64 _
 have hNR : 0 ≤ (old + a) % 18446744073709551616 ∧ (old + a) % 18446744073709551616 < 18446744073709551616 := by omega
 generalize (old + a) % 18446744073709551616 = nx at *
 go_wp2_with fail
 refine (rwith_any T C (some a0) q c ws i nx _ (hA.ext hW) hiq (by omega) (by omega)).mono ?_
 rintro e w3 ⟨A9, c9, rfl, hwv, hx⟩
 replace hE := heap_ext hE hx
 replace hG := heap_ext hG hx
 replace hO := heap_ext hO hx
 replace hP := heap_ext hP hx
 replace hW := hW.trans hx
 clear e0 e1 e2 e3 e4 e5 g0 g1 g2 g3 g4 g5
 clear hx hac hac'
 have e0 : w3.cell? ⟨w.heap.size, 0, none⟩ = some (.int .i64 T) := by simp [World.cell?, hE]
 have ef0 : w3.frozen? ⟨w.heap.size, 0, none⟩ = false := by simp [World.frozen?, hE]
 have e1 : w3.cell? ⟨w.heap.size, 1, none⟩ = some (.int .i64 C) := by simp [World.cell?, hE]
 have ef1 : w3.frozen? ⟨w.heap.size, 1, none⟩ = false := by simp [World.frozen?, hE]
 have e2 : w3.cell? ⟨w.heap.size, 2, none⟩ = some (.slice (some a0) q c) := by simp [World.cell?, hE]
 have ef2 : w3.frozen? ⟨w.heap.size, 2, none⟩ = false := by simp [World.frozen?, hE]
 have e3 : w3.cell? ⟨w.heap.size, 3, none⟩ = some (.int .u64 (RN : Int)) := by simp [World.cell?, hE]
 have ef3 : w3.frozen? ⟨w.heap.size, 3, none⟩ = false := by simp [World.frozen?, hE]
 have e4 : w3.cell? ⟨w.heap.size, 4, none⟩ = some (.slice A0 n c0) := by simp [World.cell?, hE]
 have ef4 : w3.frozen? ⟨w.heap.size, 4, none⟩ = false := by simp [World.frozen?, hE]
 have e5 : w3.cell? ⟨w.heap.size, 5, none⟩ = some (.slice A1 n c1) := by simp [World.cell?, hE]
 have ef5 : w3.frozen? ⟨w.heap.size, 5, none⟩ = false := by simp [World.frozen?, hE]
 go_upto_region 48 with (fail)
 have hwl : 2 ≤ (ws.set i nx).length := by simp; omega
 have hE3 : (((w3.setCell ⟨w.heap.size, 0, none⟩ (.int .i64 T)).setCell ⟨w.heap.size, 1, none⟩ (.int .i64 C)).setCell ⟨w.heap.size, 2, none⟩ (.slice A9 q c9)).heap[w.heap.size]? = some (.cells #[.int .i64 T, .int .i64 C, .slice A9 q c9, .int .u64 (RN : Int), .slice A0 n c0, .slice A1 n c1] 32 (0, 0)) := heap_setCell_at (heap_setCell_at (heap_setCell_at hE))
 have hO3 : (((w3.setCell ⟨w.heap.size, 0, none⟩ (.int .i64 T)).setCell ⟨w.heap.size, 1, none⟩ (.int .i64 C)).setCell ⟨w.heap.size, 2, none⟩ (.slice A9 q c9)).heap[w.heap.size + 1 + 1]? = some (.cells #[.int .i64 0, .int .i64 0, .slice none 0 0, .int .u64 0, .slice none 0 0, .slice none 0 0] 32 (0, 0)) := (setAll_other (g := w.heap.size) (by omega) [.int .i64 T, .int .i64 C, .slice A9 q c9] 0 w3).trans hO
 have hP3 : (((w3.setCell ⟨w.heap.size, 0, none⟩ (.int .i64 T)).setCell ⟨w.heap.size, 1, none⟩ (.int .i64 C)).setCell ⟨w.heap.size, 2, none⟩ (.slice A9 q c9)).heap[w.heap.size + 1 + 1 + 1]? = some (.cells #[.int .u64 0, .slice none 0 0, .bool false] 51 (0, 0)) := (setAll_other (g := w.heap.size) (by omega) [.int .i64 T, .int .i64 C, .slice A9 q c9] 0 w3).trans hP
 have hW3 : Ext w (((w3.setCell ⟨w.heap.size, 0, none⟩ (.int .i64 T)).setCell ⟨w.heap.size, 1, none⟩ (.int .i64 C)).setCell ⟨w.heap.size, 2, none⟩ (.slice A9 q c9)) := setAll_ext (g := w.heap.size) (vs := [.int .i64 T, .int .i64 C, .slice A9 q c9]) (i := 0) hW (Nat.le_refl _)
 replace hwv := WordsV.but hwv hwl (But.all w.heap.size [.int .i64 T, .int .i64 C, .slice A9 q c9] 0 w3) hE rfl
 change WordsV (((w3.setCell ⟨w.heap.size, 0, none⟩ (.int .i64 T)).setCell ⟨w.heap.size, 1, none⟩ (.int .i64 C)).setCell ⟨w.heap.size, 2, none⟩ (.slice A9 q c9)) _ _ _ _ at hwv
 clear e0 e1 e2 e3 e4 e5 ef0 ef1 ef2 ef3 ef4 ef5 hE hG hO hP hW
 generalize (((w3.setCell ⟨w.heap.size, 0, none⟩ (.int .i64 T)).setCell ⟨w.heap.size, 1, none⟩ (.int .i64 C)).setCell ⟨w.heap.size, 2, none⟩ (.slice A9 q c9)) = w4 at *
 have hE := hE3
 have hO := hO3
 have hP := hP3
 have hW := hW3
 clear hE3 hO3 hP3 hW3
 have hdk := hd.ext hW
 have hby := bytes_nil w4
 have e0 : w4.cell? ⟨w.heap.size, 0, none⟩ = some (.int .i64 T) := by simp [World.cell?, hE]
 have e1 : w4.cell? ⟨w.heap.size, 1, none⟩ = some (.int .i64 C) := by simp [World.cell?, hE]
 have e2 : w4.cell? ⟨w.heap.size, 2, none⟩ = some (.slice A9 q c9) := by simp [World.cell?, hE]
 have e3 : w4.cell? ⟨w.heap.size, 3, none⟩ = some (.int .u64 (RN : Int)) := by simp [World.cell?, hE]
 have e4 : w4.cell? ⟨w.heap.size, 4, none⟩ = some (.slice A0 n c0) := by simp [World.cell?, hE]
 have e5 : w4.cell? ⟨w.heap.size, 5, none⟩ = some (.slice A1 n c1) := by simp [World.cell?, hE]
 have o0 : w4.cell? ⟨w.heap.size + 1 + 1, 0, none⟩ = some (.int .i64 0) := by simp [World.cell?, hO]
 have of0 : w4.frozen? ⟨w.heap.size + 1 + 1, 0, none⟩ = false := by simp [World.frozen?, hO]
 have o1 : w4.cell? ⟨w.heap.size + 1 + 1, 1, none⟩ = some (.int .i64 0) := by simp [World.cell?, hO]
 have of1 : w4.frozen? ⟨w.heap.size + 1 + 1, 1, none⟩ = false := by simp [World.frozen?, hO]
 have o2 : w4.cell? ⟨w.heap.size + 1 + 1, 2, none⟩ = some (.slice none 0 0) := by simp [World.cell?, hO]
 have of2 : w4.frozen? ⟨w.heap.size + 1 + 1, 2, none⟩ = false := by simp [World.frozen?, hO]
 have o3 : w4.cell? ⟨w.heap.size + 1 + 1, 3, none⟩ = some (.int .u64 0) := by simp [World.cell?, hO]
 have of3 : w4.frozen? ⟨w.heap.size + 1 + 1, 3, none⟩ = false := by simp [World.frozen?, hO]
 have o4 : w4.cell? ⟨w.heap.size + 1 + 1, 4, none⟩ = some (.slice none 0 0) := by simp [World.cell?, hO]
 have of4 : w4.frozen? ⟨w.heap.size + 1 + 1, 4, none⟩ = false := by simp [World.frozen?, hO]
 have o5 : w4.cell? ⟨w.heap.size + 1 + 1, 5, none⟩ = some (.slice none 0 0) := by simp [World.cell?, hO]
 have of5 : w4.frozen? ⟨w.heap.size + 1 + 1, 5, none⟩ = false := by simp [World.frozen?, hO]
 have p0 : w4.cell? ⟨w.heap.size + 1 + 1 + 1, 0, none⟩ = some (.int .u64 0) := by simp [World.cell?, hP]
 have pf0 : w4.frozen? ⟨w.heap.size + 1 + 1 + 1, 0, none⟩ = false := by simp [World.frozen?, hP]
 have p1 : w4.cell? ⟨w.heap.size + 1 + 1 + 1, 1, none⟩ = some (.slice none 0 0) := by simp [World.cell?, hP]
 have pf1 : w4.frozen? ⟨w.heap.size + 1 + 1 + 1, 1, none⟩ = false := by simp [World.frozen?, hP]
 have p2 : w4.cell? ⟨w.heap.size + 1 + 1 + 1, 2, none⟩ = some (.bool false) := by simp [World.cell?, hP]
 have pf2 : w4.frozen? ⟨w.heap.size + 1 + 1 + 1, 2, none⟩ = false := by simp [World.frozen?, hP]
 have hPm : (setAll (w.heap.size + 1 + 1) 0 [.int .i64 T, .int .i64 C, .slice A9 q c9, .int .u64 (RN : Int), .slice A0 n c0, .slice A1 n c1] w4).heap[w.heap.size + 1 + 1 + 1]? = some (.cells #[.int .u64 0, .slice none 0 0, .bool false] 51 (0, 0)) := (setAll_other (g := w.heap.size + 1 + 1) (by omega) [.int .i64 T, .int .i64 C, .slice A9 q c9, .int .u64 (RN : Int), .slice A0 n c0, .slice A1 n c1] 0 w4).trans hP
 obtain ⟨wf, hwf⟩ : ∃ wf, wf = setAll (w.heap.size + 1 + 1 + 1) 0 [.int .u64 old, .slice none 0 0, .bool false] (setAll (w.heap.size + 1 + 1) 0 [.int .i64 T, .int .i64 C, .slice A9 q c9, .int .u64 (RN : Int), .slice A0 n c0, .slice A1 n c1] w4) := ⟨_, rfl⟩
 have hF : Ext w wf := hwf ▸ setAll_ext (g := w.heap.size + 1 + 1 + 1) (vs := [.int .u64 old, .slice none 0 0, .bool false]) (i := 0) (setAll_ext (g := w.heap.size + 1 + 1) (vs := [.int .i64 T, .int .i64 C, .slice A9 q c9, .int .u64 (RN : Int), .slice A0 n c0, .slice A1 n c1]) (i := 0) hW (by omega)) (by omega)
 have hfO : wf.heap[w.heap.size + 1 + 1]? = some (.cells #[.int .i64 T, .int .i64 C, .slice A9 q c9, .int .u64 (RN : Int), .slice A0 n c0, .slice A1 n c1] 32 (0, 0)) := hwf ▸ (setAll_other (g := w.heap.size + 1 + 1 + 1) (by omega) [.int .u64 old, .slice none 0 0, .bool false] 0 (setAll (w.heap.size + 1 + 1) 0 [.int .i64 T, .int .i64 C, .slice A9 q c9, .int .u64 (RN : Int), .slice A0 n c0, .slice A1 n c1] w4)).trans (setAll_all (vs := [.int .i64 T, .int .i64 C, .slice A9 q c9, .int .u64 (RN : Int), .slice A0 n c0, .slice A1 n c1]) hO rfl)
 have hfP : wf.heap[w.heap.size + 1 + 1 + 1]? = some (.cells #[.int .u64 old, .slice none 0 0, .bool false] 51 (0, 0)) := hwf ▸ setAll_all (vs := [.int .u64 old, .slice none 0 0, .bool false]) hPm rfl
 have hfd := (hdk.but (But.all (w.heap.size + 1 + 1) [.int .i64 T, .int .i64 C, .slice A9 q c9, .int .u64 (RN : Int), .slice A0 n c0, .slice A1 n c1] 0 w4) hO rfl).but (But.all (w.heap.size + 1 + 1 + 1) [.int .u64 old, .slice none 0 0, .bool false] 0 _) hPm rfl
 have hfb := BytesV.but (BytesV.but hby (But.all (w.heap.size + 1 + 1) [.int .i64 T, .int .i64 C, .slice A9 q c9, .int .u64 (RN : Int), .slice A0 n c0, .slice A1 n c1] 0 w4) hO rfl) (But.all (w.heap.size + 1 + 1 + 1) [.int .u64 old, .slice none 0 0, .bool false] 0 _) hPm rfl
 have hfw := WordsV.but (WordsV.but hwv hwl (But.all (w.heap.size + 1 + 1) [.int .i64 T, .int .i64 C, .slice A9 q c9, .int .u64 (RN : Int), .slice A0 n c0, .slice A1 n c1] 0 w4) hO rfl) hwl (But.all (w.heap.size + 1 + 1 + 1) [.int .u64 old, .slice none 0 0, .bool false] 0 _) hPm rfl
 rw [← hwf] at hfd hfb hfw
 simp only [setAll] at hwf
 have HWF := Lib.hid hwf
 clear hwf hE hO hP hPm hdk hby hwv hW
 go_wp2_with fail
 rw [← HWF.out]
 clear HWF e0 e1 e2 e3 e4 e5 o0 o1 o2 o3 o4 o5 of0 of1 of2 of3 of4 of5 p0 p1 p2 pf0 pf1 pf2
 have o0 : wf.cell? ⟨w.heap.size + 1 + 1, 0, none⟩ = some (.int .i64 T) := by simp [World.cell?, hfO]
 have o1 : wf.cell? ⟨w.heap.size + 1 + 1, 1, none⟩ = some (.int .i64 C) := by simp [World.cell?, hfO]
 have o2 : wf.cell? ⟨w.heap.size + 1 + 1, 2, none⟩ = some (.slice A9 q c9) := by simp [World.cell?, hfO]
 have o3 : wf.cell? ⟨w.heap.size + 1 + 1, 3, none⟩ = some (.int .u64 (RN : Int)) := by simp [World.cell?, hfO]
 have o4 : wf.cell? ⟨w.heap.size + 1 + 1, 4, none⟩ = some (.slice A0 n c0) := by simp [World.cell?, hfO]
 have o5 : wf.cell? ⟨w.heap.size + 1 + 1, 5, none⟩ = some (.slice A1 n c1) := by simp [World.cell?, hfO]
 have p0 : wf.cell? ⟨w.heap.size + 1 + 1 + 1, 0, none⟩ = some (.int .u64 old) := by simp [World.cell?, hfP]
 have p1 : wf.cell? ⟨w.heap.size + 1 + 1 + 1, 1, none⟩ = some (.slice none 0 0) := by simp [World.cell?, hfP]
 have p2 : wf.cell? ⟨w.heap.size + 1 + 1 + 1, 2, none⟩ = some (.bool false) := by simp [World.cell?, hfP]
 refine bodyPost_ret (v := .tuple #[.agg #[.int .i64 T, .int .i64 C, .slice A9 q c9, .int .u64 (RN : Int), .slice A0 n c0, .slice A1 n c1], .agg #[.int .u64 old, .slice none 0 0, .bool false]]) (by simp [results, Try.results19, go_sem, o0, o1, o2, o3, o4, o5, p0, p1, p2]) rfl ⟨_, _, rfl, ⟨_, _, _, _, _, _, _, rfl, hfw, hfd⟩, ⟨_, _, _, rfl, hfb⟩, hF⟩
set_option maxRecDepth 100000 in
set_option maxHeartbeats 2000000 in
theorem rdo_w4 (T C : Int) (A : Option Addr) (q c : Nat) (ws : List Int) (RN n : Nat) (A0 A1 : Option Addr) (c0 c1 : Nat) (K0 K1 : List Key) (me ce a b : Int) (D : Option Addr) (m cd : Nat) (B : Option Addr) (q2 cb : Nat) (dat : List UInt8) (wd : List Int) (w : World) (hA : WordsV w A q c ws) (hd : DkK w (.agg #[.int .u64 (RN : Int), .slice A0 n c0, .slice A1 n c1]) (RN : Int) n K0 K1)
  (hB : BytesV w D m cd dat) (hwd : WordsV w B q2 cb wd) (ha : 0 ≤ a ∧ a < 18446744073709551616) (hb : 0 ≤ b ∧ b < 18446744073709551616) {mF : Nat} (hF : Fit ⟨T, C, ws, RN, n, K0, K1⟩ mF) (fl : Bool) (hc0 : 0 ≤ ce) (hc1 : ce < (q : Int))  :
  Calls Try.prog 19 #[.agg #[.int .i64 T, .int .i64 C, .slice A q c, .int .u64 (RN : Int), .slice A0 n c0, .slice A1 n c1], .int .i64 me, .agg #[.int .i64 4, .int .i64 ce, .int .u64 a, .int .u64 b, .slice D m cd, .slice B q2 cb], .bool fl] w (DoPost (⟨T, C, ws.set ce.toNat a, RN, n, K0, K1⟩ : WldK) ⟨(ws.getD ce.toNat 0), [], false⟩ w) := by
 have hlen := hA.len
 have hlen2 := hwd.len
 have hpos : 0 < n := hF.pos
 have hn : n ≤ 64 := hF.le
 have hn6 : n ≤ 65536 := by omega
 have hR : RN < 18446744073709551616 := by have := hF.root.2; simp only at this; omega
 have hws2 : 2 ≤ ws.length := hF.ws.1
 have hws6 : ws.length ≤ 65536 := hF.ws.2
 have hm0 : ∀ x ∈ K0, x.1.length + mF ≤ 65536 := hF.k0
 have hm1 : ∀ x ∈ K1, x.1.length + mF ≤ 65536 := hF.k1
 have hs0 : ∀ x ∈ K0, x.1.length ≤ 65536 := fun x hx => by have := hm0 x hx; omega
 have hs1 : ∀ x ∈ K1, x.1.length ≤ 65536 := fun x hx => by have := hm1 x hx; omega
 clear hF
 obtain ⟨rr, hrr, hr2⟩ : ∃ rr, RN % 2 = rr ∧ rr < 2 := ⟨_, rfl, Nat.mod_lt _ (by omega)⟩
 have hri : (RN : Int) % 2 = (rr : Int) := by omega
 have hsub : IntKind.i64.wrap (1 - (rr : Int)) = 1 - (rr : Int) := by rw [IntKind.wrap_i64]; omega
 have hm : Int.tmod (RN : Int) 2 = (rr : Int) := by rw [Int.tmod_eq_emod_of_nonneg (by omega)]; omega
 have hw1 : IntKind.u64.wrap (rr : Int) = (rr : Int) := by rw [IntKind.wrap_u64]; omega
 have hw2 : IntKind.i64.wrap (rr : Int) = (rr : Int) := by rw [IntKind.wrap_i64]; omega
 try rw [hri]
 clear hrr hri
 go_enter Try.func19, Try.ntmps19
 go_upto_region 1 with (fail)
 obtain ⟨hW, hE, hG, hO, hP⟩ := boxes4 w (.cells #[.int .i64 T, .int .i64 C, .slice A q c, .int .u64 (RN : Int), .slice A0 n c0, .slice A1 n c1] 32) (.cells #[.int .i64 4, .int .i64 ce, .int .u64 a, .int .u64 b, .slice D m cd, .slice B q2 cb] 42) (.cells #[.int .i64 0, .int .i64 0, .slice none 0 0, .int .u64 0, .slice none 0 0, .slice none 0 0] 32) (.cells #[.int .u64 0, .slice none 0 0, .bool false] 51)
 generalize (((w.alloc (.cells #[.int .i64 T, .int .i64 C, .slice A q c, .int .u64 (RN : Int), .slice A0 n c0, .slice A1 n c1] 32)).alloc (.cells #[.int .i64 4, .int .i64 ce, .int .u64 a, .int .u64 b, .slice D m cd, .slice B q2 cb] 42)).alloc (.cells #[.int .i64 0, .int .i64 0, .slice none 0 0, .int .u64 0, .slice none 0 0, .slice none 0 0] 32)).alloc (.cells #[.int .u64 0, .slice none 0 0, .bool false] 51) = W at *
 have hlt : w.heap.size + 1 + 1 + 1 < W.heap.size := (Array.getElem?_eq_some_iff.1 hP).1
 have e0 : W.cell? ⟨w.heap.size, 0, none⟩ = some (.int .i64 T) := by simp [World.cell?, hE]
 have e1 : W.cell? ⟨w.heap.size, 1, none⟩ = some (.int .i64 C) := by simp [World.cell?, hE]
 have e2 : W.cell? ⟨w.heap.size, 2, none⟩ = some (.slice A q c) := by simp [World.cell?, hE]
 have e3 : W.cell? ⟨w.heap.size, 3, none⟩ = some (.int .u64 (RN : Int)) := by simp [World.cell?, hE]
 have e4 : W.cell? ⟨w.heap.size, 4, none⟩ = some (.slice A0 n c0) := by simp [World.cell?, hE]
 have e5 : W.cell? ⟨w.heap.size, 5, none⟩ = some (.slice A1 n c1) := by simp [World.cell?, hE]
 have g0 : W.cell? ⟨w.heap.size + 1, 0, none⟩ = some (.int .i64 4) := by simp [World.cell?, hG]
 have g1 : W.cell? ⟨w.heap.size + 1, 1, none⟩ = some (.int .i64 ce) := by simp [World.cell?, hG]
 have g2 : W.cell? ⟨w.heap.size + 1, 2, none⟩ = some (.int .u64 a) := by simp [World.cell?, hG]
 have g3 : W.cell? ⟨w.heap.size + 1, 3, none⟩ = some (.int .u64 b) := by simp [World.cell?, hG]
 have g4 : W.cell? ⟨w.heap.size + 1, 4, none⟩ = some (.slice D m cd) := by simp [World.cell?, hG]
 have g5 : W.cell? ⟨w.heap.size + 1, 5, none⟩ = some (.slice B q2 cb) := by simp [World.cell?, hG]
 go_upto_region 2 with (fail)
 clear hm hw1 hw2
 obtain ⟨i, rfl⟩ := Int.eq_ofNat_of_zero_le hc0
 have hiq : i < q := by omega
 obtain ⟨a0, rfl, hac, hr1, hr2⟩ := hA.at hiq
 have hac' := hW.cell hac
 try simp only [Int.toNat_natCast] at *
 generalize hold : ws.getD i 0 = old at *
 have hiI : (i : Int) < (q : Int) := by omega
 go_wp2_with fail
 refine (rwith_any T C (some a0) q c ws i a _ (hA.ext hW) hiq (by omega) (by omega)).mono ?_
 rintro e w3 ⟨A9, c9, rfl, hwv, hx⟩
 replace hE := heap_ext hE hx
 replace hG := heap_ext hG hx
 replace hO := heap_ext hO hx
 replace hP := heap_ext hP hx
 replace hW := hW.trans hx
 clear e0 e1 e2 e3 e4 e5 g0 g1 g2 g3 g4 g5
 clear hx hac hac'
 have e0 : w3.cell? ⟨w.heap.size, 0, none⟩ = some (.int .i64 T) := by simp [World.cell?, hE]
 have ef0 : w3.frozen? ⟨w.heap.size, 0, none⟩ = false := by simp [World.frozen?, hE]
 have e1 : w3.cell? ⟨w.heap.size, 1, none⟩ = some (.int .i64 C) := by simp [World.cell?, hE]
 have ef1 : w3.frozen? ⟨w.heap.size, 1, none⟩ = false := by simp [World.frozen?, hE]
 have e2 : w3.cell? ⟨w.heap.size, 2, none⟩ = some (.slice (some a0) q c) := by simp [World.cell?, hE]
 have ef2 : w3.frozen? ⟨w.heap.size, 2, none⟩ = false := by simp [World.frozen?, hE]
 have e3 : w3.cell? ⟨w.heap.size, 3, none⟩ = some (.int .u64 (RN : Int)) := by simp [World.cell?, hE]
 have ef3 : w3.frozen? ⟨w.heap.size, 3, none⟩ = false := by simp [World.frozen?, hE]
 have e4 : w3.cell? ⟨w.heap.size, 4, none⟩ = some (.slice A0 n c0) := by simp [World.cell?, hE]
 have ef4 : w3.frozen? ⟨w.heap.size, 4, none⟩ = false := by simp [World.frozen?, hE]
 have e5 : w3.cell? ⟨w.heap.size, 5, none⟩ = some (.slice A1 n c1) := by simp [World.cell?, hE]
 have ef5 : w3.frozen? ⟨w.heap.size, 5, none⟩ = false := by simp [World.frozen?, hE]
 go_upto_region 48 with (fail)
 have hwl : 2 ≤ (ws.set i a).length := by simp; omega
 have hE3 : (((w3.setCell ⟨w.heap.size, 0, none⟩ (.int .i64 T)).setCell ⟨w.heap.size, 1, none⟩ (.int .i64 C)).setCell ⟨w.heap.size, 2, none⟩ (.slice A9 q c9)).heap[w.heap.size]? = some (.cells #[.int .i64 T, .int .i64 C, .slice A9 q c9, .int .u64 (RN : Int), .slice A0 n c0, .slice A1 n c1] 32 (0, 0)) := heap_setCell_at (heap_setCell_at (heap_setCell_at hE))
 have hO3 : (((w3.setCell ⟨w.heap.size, 0, none⟩ (.int .i64 T)).setCell ⟨w.heap.size, 1, none⟩ (.int .i64 C)).setCell ⟨w.heap.size, 2, none⟩ (.slice A9 q c9)).heap[w.heap.size + 1 + 1]? = some (.cells #[.int .i64 0, .int .i64 0, .slice none 0 0, .int .u64 0, .slice none 0 0, .slice none 0 0] 32 (0, 0)) := (setAll_other (g := w.heap.size) (by omega) [.int .i64 T, .int .i64 C, .slice A9 q c9] 0 w3).trans hO
 have hP3 : (((w3.setCell ⟨w.heap.size, 0, none⟩ (.int .i64 T)).setCell ⟨w.heap.size, 1, none⟩ (.int .i64 C)).setCell ⟨w.heap.size, 2, none⟩ (.slice A9 q c9)).heap[w.heap.size + 1 + 1 + 1]? = some (.cells #[.int .u64 0, .slice none 0 0, .bool false] 51 (0, 0)) := (setAll_other (g := w.heap.size) (by omega) [.int .i64 T, .int .i64 C, .slice A9 q c9] 0 w3).trans hP
 have hW3 : Ext w (((w3.setCell ⟨w.heap.size, 0, none⟩ (.int .i64 T)).setCell ⟨w.heap.size, 1, none⟩ (.int .i64 C)).setCell ⟨w.heap.size, 2, none⟩ (.slice A9 q c9)) := setAll_ext (g := w.heap.size) (vs := [.int .i64 T, .int .i64 C, .slice A9 q c9]) (i := 0) hW (Nat.le_refl _)
 replace hwv := WordsV.but hwv hwl (But.all w.heap.size [.int .i64 T, .int .i64 C, .slice A9 q c9] 0 w3) hE rfl
 change WordsV (((w3.setCell ⟨w.heap.size, 0, none⟩ (.int .i64 T)).setCell ⟨w.heap.size, 1, none⟩ (.int .i64 C)).setCell ⟨w.heap.size, 2, none⟩ (.slice A9 q c9)) _ _ _ _ at hwv
 clear e0 e1 e2 e3 e4 e5 ef0 ef1 ef2 ef3 ef4 ef5 hE hG hO hP hW
 generalize (((w3.setCell ⟨w.heap.size, 0, none⟩ (.int .i64 T)).setCell ⟨w.heap.size, 1, none⟩ (.int .i64 C)).setCell ⟨w.heap.size, 2, none⟩ (.slice A9 q c9)) = w4 at *
 have hE := hE3
 have hO := hO3
 have hP := hP3
 have hW := hW3
 clear hE3 hO3 hP3 hW3
 have hdk := hd.ext hW
 have hby := bytes_nil w4
 have e0 : w4.cell? ⟨w.heap.size, 0, none⟩ = some (.int .i64 T) := by simp [World.cell?, hE]
 have e1 : w4.cell? ⟨w.heap.size, 1, none⟩ = some (.int .i64 C) := by simp [World.cell?, hE]
 have e2 : w4.cell? ⟨w.heap.size, 2, none⟩ = some (.slice A9 q c9) := by simp [World.cell?, hE]
 have e3 : w4.cell? ⟨w.heap.size, 3, none⟩ = some (.int .u64 (RN : Int)) := by simp [World.cell?, hE]
 have e4 : w4.cell? ⟨w.heap.size, 4, none⟩ = some (.slice A0 n c0) := by simp [World.cell?, hE]
 have e5 : w4.cell? ⟨w.heap.size, 5, none⟩ = some (.slice A1 n c1) := by simp [World.cell?, hE]
 have o0 : w4.cell? ⟨w.heap.size + 1 + 1, 0, none⟩ = some (.int .i64 0) := by simp [World.cell?, hO]
 have of0 : w4.frozen? ⟨w.heap.size + 1 + 1, 0, none⟩ = false := by simp [World.frozen?, hO]
 have o1 : w4.cell? ⟨w.heap.size + 1 + 1, 1, none⟩ = some (.int .i64 0) := by simp [World.cell?, hO]
 have of1 : w4.frozen? ⟨w.heap.size + 1 + 1, 1, none⟩ = false := by simp [World.frozen?, hO]
 have o2 : w4.cell? ⟨w.heap.size + 1 + 1, 2, none⟩ = some (.slice none 0 0) := by simp [World.cell?, hO]
 have of2 : w4.frozen? ⟨w.heap.size + 1 + 1, 2, none⟩ = false := by simp [World.frozen?, hO]
 have o3 : w4.cell? ⟨w.heap.size + 1 + 1, 3, none⟩ = some (.int .u64 0) := by simp [World.cell?, hO]
 have of3 : w4.frozen? ⟨w.heap.size + 1 + 1, 3, none⟩ = false := by simp [World.frozen?, hO]
 have o4 : w4.cell? ⟨w.heap.size + 1 + 1, 4, none⟩ = some (.slice none 0 0) := by simp [World.cell?, hO]
 have of4 : w4.frozen? ⟨w.heap.size + 1 + 1, 4, none⟩ = false := by simp [World.frozen?, hO]
 have o5 : w4.cell? ⟨w.heap.size + 1 + 1, 5, none⟩ = some (.slice none 0 0) := by simp [World.cell?, hO]
 have of5 : w4.frozen? ⟨w.heap.size + 1 + 1, 5, none⟩ = false := by simp [World.frozen?, hO]
 have p0 : w4.cell? ⟨w.heap.size + 1 + 1 + 1, 0, none⟩ = some (.int .u64 0) := by simp [World.cell?, hP]
 have pf0 : w4.frozen? ⟨w.heap.size + 1 + 1 + 1, 0, none⟩ = false := by simp [World.frozen?, hP]
 have p1 : w4.cell? ⟨w.heap.size + 1 + 1 + 1, 1, none⟩ = some (.slice none 0 0) := by simp [World.cell?, hP]
 have pf1 : w4.frozen? ⟨w.heap.size + 1 + 1 + 1, 1, none⟩ = false := by simp [World.frozen?, hP]
 have p2 : w4.cell? ⟨w.heap.size + 1 + 1 + 1, 2, none⟩ = some (.bool false) := by simp [World.cell?, hP]
 have pf2 : w4.frozen? ⟨w.heap.size + 1 + 1 + 1, 2, none⟩ = false := by simp [World.frozen?, hP]
 have hPm : (setAll (w.heap.size + 1 + 1) 0 [.int .i64 T, .int .i64 C, .slice A9 q c9, .int .u64 (RN : Int), .slice A0 n c0, .slice A1 n c1] w4).heap[w.heap.size + 1 + 1 + 1]? = some (.cells #[.int .u64 0, .slice none 0 0, .bool false] 51 (0, 0)) := (setAll_other (g := w.heap.size + 1 + 1) (by omega) [.int .i64 T, .int .i64 C, .slice A9 q c9, .int .u64 (RN : Int), .slice A0 n c0, .slice A1 n c1] 0 w4).trans hP
 obtain ⟨wf, hwf⟩ : ∃ wf, wf = setAll (w.heap.size + 1 + 1 + 1) 0 [.int .u64 old, .slice none 0 0, .bool false] (setAll (w.heap.size + 1 + 1) 0 [.int .i64 T, .int .i64 C, .slice A9 q c9, .int .u64 (RN : Int), .slice A0 n c0, .slice A1 n c1] w4) := ⟨_, rfl⟩
 have hF : Ext w wf := hwf ▸ setAll_ext (g := w.heap.size + 1 + 1 + 1) (vs := [.int .u64 old, .slice none 0 0, .bool false]) (i := 0) (setAll_ext (g := w.heap.size + 1 + 1) (vs := [.int .i64 T, .int .i64 C, .slice A9 q c9, .int .u64 (RN : Int), .slice A0 n c0, .slice A1 n c1]) (i := 0) hW (by omega)) (by omega)
 have hfO : wf.heap[w.heap.size + 1 + 1]? = some (.cells #[.int .i64 T, .int .i64 C, .slice A9 q c9, .int .u64 (RN : Int), .slice A0 n c0, .slice A1 n c1] 32 (0, 0)) := hwf ▸ (setAll_other (g := w.heap.size + 1 + 1 + 1) (by omega) [.int .u64 old, .slice none 0 0, .bool false] 0 (setAll (w.heap.size + 1 + 1) 0 [.int .i64 T, .int .i64 C, .slice A9 q c9, .int .u64 (RN : Int), .slice A0 n c0, .slice A1 n c1] w4)).trans (setAll_all (vs := [.int .i64 T, .int .i64 C, .slice A9 q c9, .int .u64 (RN : Int), .slice A0 n c0, .slice A1 n c1]) hO rfl)
 have hfP : wf.heap[w.heap.size + 1 + 1 + 1]? = some (.cells #[.int .u64 old, .slice none 0 0, .bool false] 51 (0, 0)) := hwf ▸ setAll_all (vs := [.int .u64 old, .slice none 0 0, .bool false]) hPm rfl
 have hfd := (hdk.but (But.all (w.heap.size + 1 + 1) [.int .i64 T, .int .i64 C, .slice A9 q c9, .int .u64 (RN : Int), .slice A0 n c0, .slice A1 n c1] 0 w4) hO rfl).but (But.all (w.heap.size + 1 + 1 + 1) [.int .u64 old, .slice none 0 0, .bool false] 0 _) hPm rfl
 have hfb := BytesV.but (BytesV.but hby (But.all (w.heap.size + 1 + 1) [.int .i64 T, .int .i64 C, .slice A9 q c9, .int .u64 (RN : Int), .slice A0 n c0, .slice A1 n c1] 0 w4) hO rfl) (But.all (w.heap.size + 1 + 1 + 1) [.int .u64 old, .slice none 0 0, .bool false] 0 _) hPm rfl
 have hfw := WordsV.but (WordsV.but hwv hwl (But.all (w.heap.size + 1 + 1) [.int .i64 T, .int .i64 C, .slice A9 q c9, .int .u64 (RN : Int), .slice A0 n c0, .slice A1 n c1] 0 w4) hO rfl) hwl (But.all (w.heap.size + 1 + 1 + 1) [.int .u64 old, .slice none 0 0, .bool false] 0 _) hPm rfl
 rw [← hwf] at hfd hfb hfw
 simp only [setAll] at hwf
 have HWF := Lib.hid hwf
 clear hwf hE hO hP hPm hdk hby hwv hW
 go_wp2_with fail
 rw [← HWF.out]
 clear HWF e0 e1 e2 e3 e4 e5 o0 o1 o2 o3 o4 o5 of0 of1 of2 of3 of4 of5 p0 p1 p2 pf0 pf1 pf2
 have o0 : wf.cell? ⟨w.heap.size + 1 + 1, 0, none⟩ = some (.int .i64 T) := by simp [World.cell?, hfO]
 have o1 : wf.cell? ⟨w.heap.size + 1 + 1, 1, none⟩ = some (.int .i64 C) := by simp [World.cell?, hfO]
 have o2 : wf.cell? ⟨w.heap.size + 1 + 1, 2, none⟩ = some (.slice A9 q c9) := by simp [World.cell?, hfO]
 have o3 : wf.cell? ⟨w.heap.size + 1 + 1, 3, none⟩ = some (.int .u64 (RN : Int)) := by simp [World.cell?, hfO]
 have o4 : wf.cell? ⟨w.heap.size + 1 + 1, 4, none⟩ = some (.slice A0 n c0) := by simp [World.cell?, hfO]
 have o5 : wf.cell? ⟨w.heap.size + 1 + 1, 5, none⟩ = some (.slice A1 n c1) := by simp [World.cell?, hfO]
 have p0 : wf.cell? ⟨w.heap.size + 1 + 1 + 1, 0, none⟩ = some (.int .u64 old) := by simp [World.cell?, hfP]
 have p1 : wf.cell? ⟨w.heap.size + 1 + 1 + 1, 1, none⟩ = some (.slice none 0 0) := by simp [World.cell?, hfP]
 have p2 : wf.cell? ⟨w.heap.size + 1 + 1 + 1, 2, none⟩ = some (.bool false) := by simp [World.cell?, hfP]
 refine bodyPost_ret (v := .tuple #[.agg #[.int .i64 T, .int .i64 C, .slice A9 q c9, .int .u64 (RN : Int), .slice A0 n c0, .slice A1 n c1], .agg #[.int .u64 old, .slice none 0 0, .bool false]]) (by simp [results, Try.results19, go_sem, o0, o1, o2, o3, o4, o5, p0, p1, p2]) rfl ⟨_, _, rfl, ⟨_, _, _, _, _, _, _, rfl, hfw, hfd⟩, ⟨_, _, _, rfl, hfb⟩, hF⟩
set_option maxHeartbeats 2000000 in
theorem rdo_all (v av : Value) (X : WldK) (me : Int) (A : AccK) (fail : Bool) (w : World) (hX : WldV w v X) (hA : AccV w av A) (hF : Fit X (useM A fail)) :
  Calls Try.prog 19 #[v, .int .i64 me, av, .bool fail] w (DoPost (doK X me A fail) (doR X A fail) w) := by
 obtain ⟨T, C, ws, R, n, K0, K1⟩ := X
 obtain ⟨k, ce, a, b, dat, wd⟩ := A
 obtain ⟨RN, rfl⟩ : ∃ RN : Nat, R = (RN : Int) := ⟨R.toNat, by have := hF.root.1; simp only at this; omega⟩
 obtain ⟨AA, q, c, A0, A1, c0, c1, rfl, hw, hd⟩ := hX
 obtain ⟨D, m, cd, B, q2, cb, rfl, hB, hwd, ha, hb⟩ := hA
 simp only at *
 by_cases hk : diskKind k = true
 ·have hk2 : 5 ≤ k ∧ k ≤ 12 := by simpa [diskKind] using hk
  cases fail with
  | true =>
   rw [show doK ⟨T, C, ws, RN, n, K0, K1⟩ me ⟨k, ce, a, b, dat, wd⟩ true = ⟨T, C, ws, RN, n, K0, K1⟩ by simp [doK, hk], show doR ⟨T, C, ws, RN, n, K0, K1⟩ ⟨k, ce, a, b, dat, wd⟩ true = ⟨0, [], true⟩ by simp [doR, hk]]
   exact rdo_fail T C AA q c ws RN n A0 A1 c0 c1 K0 K1 me k ce a b D m cd B q2 cb dat wd w hw hd hB hwd ha hb hF hk2.1 hk2.2
  | false =>
   have hmF : m = useM ⟨k, ce, a, b, dat, wd⟩ false := by simp [useM, hk, hB.len]
   have h8 : k = 5 ∨ k = 6 ∨ k = 7 ∨ k = 8 ∨ k = 9 ∨ k = 10 ∨ k = 11 ∨ k = 12 := by omega
   clear hk hk2
   rcases h8 with rfl | rfl | rfl | rfl | rfl | rfl | rfl | rfl
   ·rw [show doK ⟨T, C, ws, RN, n, K0, K1⟩ me ⟨5, ce, a, b, dat, wd⟩ false = ⟨T, C, ws, (RN : Int), n, act0 ((RN : Int) % 2) me (appK dat) K0, act1 ((RN : Int) % 2) me (appK dat) K1⟩ by simp [doK, diskKind, strRoot, strK0, strK1], show doR ⟨T, C, ws, RN, n, K0, K1⟩ ⟨5, ce, a, b, dat, wd⟩ false = ResK.zero by simp [doR, diskKind, strR]]
    exact rdo_5 T C AA q c ws RN n A0 A1 c0 c1 K0 K1 me ce a b D m cd B q2 cb dat wd w hw hd hB hwd ha hb hF hmF
   ·rw [show doK ⟨T, C, ws, RN, n, K0, K1⟩ me ⟨6, ce, a, b, dat, wd⟩ false = ⟨T, C, ws, (RN : Int), n, act0 ((RN : Int) % 2) me synK K0, act1 ((RN : Int) % 2) me synK K1⟩ by simp [doK, diskKind, strRoot, strK0, strK1], show doR ⟨T, C, ws, RN, n, K0, K1⟩ ⟨6, ce, a, b, dat, wd⟩ false = ResK.zero by simp [doR, diskKind, strR]]
    exact rdo_6 T C AA q c ws RN n A0 A1 c0 c1 K0 K1 me ce a b D m cd B q2 cb dat wd w hw hd hB hwd ha hb hF hmF
   ·rw [show doK ⟨T, C, ws, RN, n, K0, K1⟩ me ⟨7, ce, a, b, dat, wd⟩ false = ⟨T, C, ws, (RN : Int), n, K0, K1⟩ by simp [doK, diskKind, strRoot, strK0, strK1], show doR ⟨T, C, ws, RN, n, K0, K1⟩ ⟨7, ce, a, b, dat, wd⟩ false = ⟨(RN : Int), [], false⟩ by simp [doR, diskKind, strR]]
    exact rdo_7 T C AA q c ws RN n A0 A1 c0 c1 K0 K1 me ce a b D m cd B q2 cb dat wd w hw hd hB hwd ha hb hF
   ·rw [show doK ⟨T, C, ws, RN, n, K0, K1⟩ me ⟨8, ce, a, b, dat, wd⟩ false = ⟨T, C, ws, (RN : Int), n, K0, K1⟩ by simp [doK, diskKind, strRoot, strK0, strK1], show doR ⟨T, C, ws, RN, n, K0, K1⟩ ⟨8, ce, a, b, dat, wd⟩ false = ⟨0, readK ((RN : Int) % 2) ce K0 K1, false⟩ by simp [doR, diskKind, strR]]
    exact rdo_8 T C AA q c ws RN n A0 A1 c0 c1 K0 K1 me ce a b D m cd B q2 cb dat wd w hw hd hB hwd ha hb hF
   ·rw [show doK ⟨T, C, ws, RN, n, K0, K1⟩ me ⟨9, ce, a, b, dat, wd⟩ false = ⟨T, C, ws, (RN : Int), n, clr0 (1 - (RN : Int) % 2) n K0, clr1 (1 - (RN : Int) % 2) n K1⟩ by simp [doK, diskKind, strRoot, strK0, strK1], show doR ⟨T, C, ws, RN, n, K0, K1⟩ ⟨9, ce, a, b, dat, wd⟩ false = ResK.zero by simp [doR, diskKind, strR]]
    exact rdo_9 T C AA q c ws RN n A0 A1 c0 c1 K0 K1 me ce a b D m cd B q2 cb dat wd w hw hd hB hwd ha hb hF hmF
   ·rw [show doK ⟨T, C, ws, RN, n, K0, K1⟩ me ⟨10, ce, a, b, dat, wd⟩ false = ⟨T, C, ws, (RN : Int), n, act0 (1 - (RN : Int) % 2) 0 (appK dat) K0, act1 (1 - (RN : Int) % 2) 0 (appK dat) K1⟩ by simp [doK, diskKind, strRoot, strK0, strK1], show doR ⟨T, C, ws, RN, n, K0, K1⟩ ⟨10, ce, a, b, dat, wd⟩ false = ResK.zero by simp [doR, diskKind, strR]]
    exact rdo_10 T C AA q c ws RN n A0 A1 c0 c1 K0 K1 me ce a b D m cd B q2 cb dat wd w hw hd hB hwd ha hb hF hmF
   ·rw [show doK ⟨T, C, ws, RN, n, K0, K1⟩ me ⟨11, ce, a, b, dat, wd⟩ false = ⟨T, C, ws, (RN : Int), n, act0 (1 - (RN : Int) % 2) 0 synK K0, act1 (1 - (RN : Int) % 2) 0 synK K1⟩ by simp [doK, diskKind, strRoot, strK0, strK1], show doR ⟨T, C, ws, RN, n, K0, K1⟩ ⟨11, ce, a, b, dat, wd⟩ false = ResK.zero by simp [doR, diskKind, strR]]
    exact rdo_11 T C AA q c ws RN n A0 A1 c0 c1 K0 K1 me ce a b D m cd B q2 cb dat wd w hw hd hB hwd ha hb hF hmF
   ·rw [show doK ⟨T, C, ws, RN, n, K0, K1⟩ me ⟨12, ce, a, b, dat, wd⟩ false = ⟨T, C, ws, ((RN : Int) + 1) % 18446744073709551616, n, K0, K1⟩ by simp [doK, diskKind, strRoot, strK0, strK1], show doR ⟨T, C, ws, RN, n, K0, K1⟩ ⟨12, ce, a, b, dat, wd⟩ false = ResK.zero by simp [doR, diskKind, strR]]
    exact rdo_12 T C AA q c ws RN n A0 A1 c0 c1 K0 K1 me ce a b D m cd B q2 cb dat wd w hw hd hB hwd ha hb hF
 ·have hk' : diskKind k = false := by simpa using hk
  by_cases h13 : k = 13
  ·subst h13
   by_cases hne : wd.length = ws.length
   ·rw [show doK ⟨T, C, ws, RN, n, K0, K1⟩ me ⟨13, ce, a, b, dat, wd⟩ fail = ⟨T, C, wd, RN, n, K0, K1⟩ by simp [doK, hne, diskKind], show doR ⟨T, C, ws, RN, n, K0, K1⟩ ⟨13, ce, a, b, dat, wd⟩ fail = ResK.zero by simp [doR, diskKind]]
    exact rdo_inst_yes T C AA q c ws RN n A0 A1 c0 c1 K0 K1 me ce a b D m cd B q2 cb dat wd w hw hd hB hwd ha hb hF fail hne
   ·rw [show doK ⟨T, C, ws, RN, n, K0, K1⟩ me ⟨13, ce, a, b, dat, wd⟩ fail = ⟨T, C, ws, RN, n, K0, K1⟩ by simp [doK, hne, diskKind], show doR ⟨T, C, ws, RN, n, K0, K1⟩ ⟨13, ce, a, b, dat, wd⟩ fail = ResK.zero by simp [doR, diskKind]]
    exact rdo_inst_no T C AA q c ws RN n A0 A1 c0 c1 K0 K1 me ce a b D m cd B q2 cb dat wd w hw hd hB hwd ha hb hF fail hne
  ·have eK : doK ⟨T, C, ws, RN, n, K0, K1⟩ me ⟨k, ce, a, b, dat, wd⟩ fail = ⟨T, C, wordsK ws ⟨k, ce, a, b, dat, wd⟩, RN, n, K0, K1⟩ := by simp [doK, hk', h13]
   have eR : doR ⟨T, C, ws, RN, n, K0, K1⟩ ⟨k, ce, a, b, dat, wd⟩ fail = wordsR ws ⟨k, ce, a, b, dat, wd⟩ := by simp [doR, hk', h13]
   rw [eK, eR]
   clear eK eR
   cases hin : inW ws.length ⟨k, ce, a, b, dat, wd⟩ with
   | false =>
    rw [show wordsK ws ⟨k, ce, a, b, dat, wd⟩ = ws by simp [wordsK, hin], show wordsR ws ⟨k, ce, a, b, dat, wd⟩ = ResK.zero by simp [wordsR, hin]]
    exact rdo_word_no T C AA q c ws RN n A0 A1 c0 c1 K0 K1 me k ce a b D m cd B q2 cb dat wd w hw hd hB hwd ha hb hF fail hk' h13 hin
   | true =>
    obtain ⟨i1, i2, i3, i4⟩ := inW_iff.1 hin
    simp only at i1 i2 i3 i4
    have hc1 : ce < (q : Int) := by rw [← hw.len]; exact i4
    rw [show wordsK ws ⟨k, ce, a, b, dat, wd⟩ = ws.set ce.toNat (turnX k (ws.getD ce.toNat 0) a b) by simp [wordsK, hin], show wordsR ws ⟨k, ce, a, b, dat, wd⟩ = ⟨turnN k (ws.getD ce.toNat 0) a, [], false⟩ by simp [wordsR, hin]]
    have h5 : k = 0 ∨ k = 1 ∨ k = 2 ∨ k = 3 ∨ k = 4 := by omega
    clear hk hk' h13 i1 i2
    rcases h5 with rfl | rfl | rfl | rfl | rfl
    ·have hs : ws.set ce.toNat (turnX 0 (ws.getD ce.toNat 0) a b) = ws := by
      simp only [turnX]
      refine List.ext_getElem? fun x => ?_
      by_cases hxi : x = ce.toNat
      ·subst hxi
       rw [show (if (0 : Int) = 1 then a else if (0 : Int) = 2 then (if ws.getD ce.toNat 0 = a then b else ws.getD ce.toNat 0) else if (0 : Int) = 3 then (ws.getD ce.toNat 0 + a) % 18446744073709551616 else if (0 : Int) = 4 then a else ws.getD ce.toNat 0) = ws.getD ce.toNat 0 by simp]
       have hil : ce.toNat < ws.length := by omega
       rw [List.getElem?_set_self hil, List.getElem?_eq_getElem hil]; simp [List.getD_eq_getElem?_getD, hil]
      ·rw [List.getElem?_set_ne (fun e => hxi e.symm)]
     rw [hs, show turnN 0 (ws.getD ce.toNat 0) a = ws.getD ce.toNat 0 by simp [turnN]]
     exact rdo_w0 T C AA q c ws RN n A0 A1 c0 c1 K0 K1 me ce a b D m cd B q2 cb dat wd w hw hd hB hwd ha hb hF fail i3 hc1
    ·rw [show turnX 1 (ws.getD ce.toNat 0) a b = a by simp [turnX], show turnN 1 (ws.getD ce.toNat 0) a = 0 by simp [turnN]]
     exact rdo_w1 T C AA q c ws RN n A0 A1 c0 c1 K0 K1 me ce a b D m cd B q2 cb dat wd w hw hd hB hwd ha hb hF fail i3 hc1
    ·by_cases hne : ws.getD ce.toNat 0 = a
     ·rw [show turnX 2 (ws.getD ce.toNat 0) a b = b by simp only [turnX, hne]; simp, show turnN 2 (ws.getD ce.toNat 0) a = 1 by simp only [turnN, hne]; simp]
      exact rdo_w2y T C AA q c ws RN n A0 A1 c0 c1 K0 K1 me ce a b D m cd B q2 cb dat wd w hw hd hB hwd ha hb hF fail i3 hc1 hne
     ·have hs : ws.set ce.toNat (turnX 2 (ws.getD ce.toNat 0) a b) = ws := by
       rw [show turnX 2 (ws.getD ce.toNat 0) a b = ws.getD ce.toNat 0 by simp only [turnX, if_neg hne]; simp]
       refine List.ext_getElem? fun x => ?_
       by_cases hxi : x = ce.toNat
       ·subst hxi
        have hil : ce.toNat < ws.length := by omega
        rw [List.getElem?_set_self hil, List.getElem?_eq_getElem hil]; simp [List.getD_eq_getElem?_getD, hil]
       ·rw [List.getElem?_set_ne (fun e => hxi e.symm)]
      rw [hs, show turnN 2 (ws.getD ce.toNat 0) a = 0 by simp only [turnN, if_neg hne]; simp]
      exact rdo_w2n T C AA q c ws RN n A0 A1 c0 c1 K0 K1 me ce a b D m cd B q2 cb dat wd w hw hd hB hwd ha hb hF fail i3 hc1 hne
    ·rw [show turnX 3 (ws.getD ce.toNat 0) a b = (ws.getD ce.toNat 0 + a) % 18446744073709551616 by simp [turnX], show turnN 3 (ws.getD ce.toNat 0) a = ws.getD ce.toNat 0 by simp [turnN]]
     exact rdo_w3 T C AA q c ws RN n A0 A1 c0 c1 K0 K1 me ce a b D m cd B q2 cb dat wd w hw hd hB hwd ha hb hF fail i3 hc1
    ·rw [show turnX 4 (ws.getD ce.toNat 0) a b = a by simp [turnX], show turnN 4 (ws.getD ce.toNat 0) a = ws.getD ce.toNat 0 by simp [turnN]]
     exact rdo_w4 T C AA q c ws RN n A0 A1 c0 c1 K0 K1 me ce a b D m cd B q2 cb dat wd w hw hd hB hwd ha hb hF fail i3 hc1
end Go.Proofs.Ytennnhfaghdeoaa
