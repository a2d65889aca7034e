import Derived.Test.YtennnhfaghdeoaaAccRight
namespace Go.Proofs.Ytennnhfaghdeoaa
open Go.RowKit

/-! wealdref10.New. -/
def newW (t c : Nat) : WldK := ⟨(t : Int), (c : Int), (List.range (memL t c)).map (newF t c c), 0, newN (t : Int), List.replicate (newN (t : Int)) ([], 0), List.replicate (newN (t : Int)) ([], 0)⟩
set_option maxRecDepth 100000 in
set_option maxHeartbeats 1000000 in
theorem ranew_yes (t c : Nat) (ht1 : 1 ≤ t) (ht2 : t ≤ 64) (hc : c ≤ 65536) (w : World) :
    Calls Try.prog 23 #[.int .i64 t, .int .i64 c] w fun e w' => ∃ v', e = .returned v' ∧ WldV w' v' (newW t c) ∧ Ext w w' := by
  have hk : codeB (decide (1 ≤ (t : Int) ∧ (t : Int) ≤ 64)) = 0 := by simp [codeB]; omega
  go_enter Try.func23, Try.ntmps23
  go_upto_region 1 with (fail)
  have hE0 : Ext w (w.alloc (.cells #[.int .i64 0, .int .i64 0, .slice none 0 0, .int .u64 0, .slice none 0 0, .slice none 0 0] 32)) := (Below.refl _ w).alloc (Nat.le_refl _) _
  have hR0 := heap_alloc_new w (.cells #[.int .i64 0, .int .i64 0, .slice none 0 0, .int .u64 0, .slice none 0 0, .slice none 0 0] 32)
  generalize w.alloc (.cells #[.int .i64 0, .int .i64 0, .slice none 0 0, .int .u64 0, .slice none 0 0, .slice none 0 0] 32) = W0 at *
  go_wp2_with fail
  refine (rnew_yes t c ht1 ht2 hc _).mono ?_
  rintro e w1 ⟨g, rfl, hg, hWd, hx1⟩
  go_upto_region 2 with (fail)
  have hx2 : Ext w1 (w1.alloc (.cells #[.int .i64 t, .int .i64 c, .slice (some ⟨g, 0, none⟩) (memL t c) (memL t c)] 25)) := (Below.refl _ w1).alloc (Nat.le_refl _) _
  have hM := heap_alloc_new w1 (.cells #[.int .i64 t, .int .i64 c, .slice (some ⟨g, 0, none⟩) (memL t c) (memL t c)] 25)
  have hV : WordsV w1 (some ⟨g, 0, none⟩) (memL t c) (memL t c) ((List.range (memL t c)).map (newF t c c)) := hWd.v (by unfold memL maxLen; omega) fun i hi => ⟨(newF_u64 hi hc).1, by have := (newF_u64 (r := c) hi hc).2; omega⟩
  replace hV := hV.ext hx2
  replace hx1 := hx1.trans hx2
  generalize w1.alloc (.cells #[.int .i64 t, .int .i64 c, .slice (some ⟨g, 0, none⟩) (memL t c) (memL t c)] 25) = W1 at *
  generalize hgM : w1.heap.size = gM at *
  clear hx2 hWd hgM
  go_wp2_with fail
  refine (rnew_K t _).mono ?_
  rintro e w2 ⟨v2, rfl, hd, hx3⟩
  rw [hk]
  obtain ⟨A0, A1, c0, c1, rfl⟩ := hd.form
  generalize hN : newN (t : Int) = N at *
  go_upto_region 3 with (fail)
  have hx4 : Ext w2 (w2.alloc (.cells #[.int .u64 0, .slice A0 N c0, .slice A1 N c1] 30)) := (Below.refl _ w2).alloc (Nat.le_refl _) _
  have hD := heap_alloc_new w2 (.cells #[.int .u64 0, .slice A0 N c0, .slice A1 N c1] 30)
  generalize w2.alloc (.cells #[.int .u64 0, .slice A0 N c0, .slice A1 N c1] 30) = W2 at *
  generalize w2.heap.size = gD at *
  replace hx3 := hx3.trans hx4
  replace hd := hd.ext hx4
  replace hV := hV.ext hx3
  replace hM := heap_ext hM hx3
  have hR := heap_ext hR0 (hx1.trans hx3)
  have hE := hE0.trans (hx1.trans hx3)
  clear hx1 hx3 hx4 hR0 hE0
  have m0 : W2.cell? ⟨gM, 0, none⟩ = some (.int .i64 t) := by simp [World.cell?, hM]
  have m1 : W2.cell? ⟨gM, 1, none⟩ = some (.int .i64 c) := by simp [World.cell?, hM]
  have m2 : W2.cell? ⟨gM, 2, none⟩ = some (.slice (some ⟨g, 0, none⟩) (memL t c) (memL t c)) := by simp [World.cell?, hM]
  have d0 : W2.cell? ⟨gD, 0, none⟩ = some (.int .u64 0) := by simp [World.cell?, hD]
  have d1 : W2.cell? ⟨gD, 1, none⟩ = some (.slice A0 N c0) := by simp [World.cell?, hD]
  have d2 : W2.cell? ⟨gD, 2, none⟩ = some (.slice A1 N c1) := by simp [World.cell?, hD]
  have r0 : W2.cell? ⟨w.heap.size, 0, none⟩ = some (.int .i64 0) := by simp [World.cell?, hR]
  have rf0 : W2.frozen? ⟨w.heap.size, 0, none⟩ = false := by simp [World.frozen?, hR]
  have r1 : W2.cell? ⟨w.heap.size, 1, none⟩ = some (.int .i64 0) := by simp [World.cell?, hR]
  have rf1 : W2.frozen? ⟨w.heap.size, 1, none⟩ = false := by simp [World.frozen?, hR]
  have r2 : W2.cell? ⟨w.heap.size, 2, none⟩ = some (.slice none 0 0) := by simp [World.cell?, hR]
  have rf2 : W2.frozen? ⟨w.heap.size, 2, none⟩ = false := by simp [World.frozen?, hR]
  have r3 : W2.cell? ⟨w.heap.size, 3, none⟩ = some (.int .u64 0) := by simp [World.cell?, hR]
  have rf3 : W2.frozen? ⟨w.heap.size, 3, none⟩ = false := by simp [World.frozen?, hR]
  have r4 : W2.cell? ⟨w.heap.size, 4, none⟩ = some (.slice none 0 0) := by simp [World.cell?, hR]
  have rf4 : W2.frozen? ⟨w.heap.size, 4, none⟩ = false := by simp [World.frozen?, hR]
  have r5 : W2.cell? ⟨w.heap.size, 5, none⟩ = some (.slice none 0 0) := by simp [World.cell?, hR]
  have rf5 : W2.frozen? ⟨w.heap.size, 5, none⟩ = false := by simp [World.frozen?, hR]
  have hF := But.all w.heap.size [.int .i64 t, .int .i64 c, .slice (some ⟨g, 0, none⟩) (memL t c) (memL t c), .int .u64 0, .slice A0 N c0, .slice A1 N c1] 0 W2
  have hX := setAll_ext (g := w.heap.size) (vs := [.int .i64 t, .int .i64 c, .slice (some ⟨g, 0, none⟩) (memL t c) (memL t c), .int .u64 0, .slice A0 N c0, .slice A1 N c1]) (i := 0) hE (by omega)
  have hRF := setAll_all (vs := [.int .i64 t, .int .i64 c, .slice (some ⟨g, 0, none⟩) (memL t c) (memL t c), .int .u64 0, .slice A0 N c0, .slice A1 N c1]) hR rfl
  simp only [setAll] at hF hX hRF
  go_wp2
  generalize ((((((W2.setCell ⟨w.heap.size, 0, none⟩ (.int .i64 t)).setCell ⟨w.heap.size, 1, none⟩ (.int .i64 c)).setCell ⟨w.heap.size, 2, none⟩ (.slice (some ⟨g, 0, none⟩) (memL t c) (memL t c))).setCell ⟨w.heap.size, 3, none⟩ (.int .u64 0)).setCell ⟨w.heap.size, 4, none⟩ (.slice A0 N c0)).setCell ⟨w.heap.size, 5, none⟩ (.slice A1 N c1)) = wf at *
  clear r0 r1 r2 r3 r4 r5
  have r0 : wf.cell? ⟨w.heap.size, 0, none⟩ = some (.int .i64 t) := by simp [World.cell?, hRF]
  have r1 : wf.cell? ⟨w.heap.size, 1, none⟩ = some (.int .i64 c) := by simp [World.cell?, hRF]
  have r2 : wf.cell? ⟨w.heap.size, 2, none⟩ = some (.slice (some ⟨g, 0, none⟩) (memL t c) (memL t c)) := by simp [World.cell?, hRF]
  have r3 : wf.cell? ⟨w.heap.size, 3, none⟩ = some (.int .u64 0) := by simp [World.cell?, hRF]
  have r4 : wf.cell? ⟨w.heap.size, 4, none⟩ = some (.slice A0 N c0) := by simp [World.cell?, hRF]
  have r5 : wf.cell? ⟨w.heap.size, 5, none⟩ = some (.slice A1 N c1) := by simp [World.cell?, hRF]
  refine bodyPost_ret (v := .agg #[.int .i64 t, .int .i64 c, .slice (some ⟨g, 0, none⟩) (memL t c) (memL t c), .int .u64 0, .slice A0 N c0, .slice A1 N c1]) (by simp [results, Try.results23, go_sem, r0, r1, r2, r3, r4, r5]) rfl ⟨_, rfl, ?_, hX⟩
  subst hN
  exact ⟨_, _, _, _, _, _, _, rfl, hV.but (by simp [memL]; omega) hF hR (by rfl), hd.but hF hR (by rfl)⟩

open Go.RowKit

/-! Worlds told by keys: right or not; what stands in their rows. -/
def allR (K : List Key) : Bool := K.all fun k => rightB k.2 k.1.length
def rightX (X : WldK) : Bool := rightM X.T X.C X.ws.length && ((decide (1 ≤ X.n ∧ X.n ≤ 64) && (allR X.K0 && allR X.K1)) && ((X.n : Int) == X.T))
theorem all_keys {w : World} {A : Option Addr} {n c : Nat} {l : List St} (h : RowV w A n c l) : l.all St.right = allR (l.map St.key) := by
  unfold allR
  rw [List.all_map, Bool.eq_iff_iff, List.all_eq_true, List.all_eq_true]
  constructor
  · intro hx s hs
    have h1 := hx s hs
    have h2 : s.d.length = s.q := (h.ok s hs).len
    simp only [Function.comp_apply, St.key, h2]
    exact h1
  · intro hx s hs
    have h1 := hx s hs
    have h2 : s.d.length = s.q := (h.ok s hs).len
    simp only [Function.comp_apply, St.key, h2] at h1
    exact h1
theorem rightW_X {w : World} {T C : Int} {A0 A1 : Option Addr} {ws : List Int} {R : Int} {n c0 c1 : Nat} {l0 l1 : List St} (h0 : RowV w A0 n c0 l0) (h1 : RowV w A1 n c1 l1) : rightW T C ws.length n n l0 l1 = rightX ⟨T, C, ws, R, n, l0.map St.key, l1.map St.key⟩ := by
  simp only [rightW, rightX, rightD, List.all_append, all_keys h0, all_keys h1, and_true]
theorem DkK.rows {w : World} {R : Int} {A0 A1 : Option Addr} {n c0 c1 : Nat} {K0 K1 : List Key} (h : DkK w (.agg #[.int .u64 R, .slice A0 n c0, .slice A1 n c1]) R n K0 K1) : ∃ l0 l1, RowV w A0 n c0 l0 ∧ RowV w A1 n c1 l1 ∧ l0.map St.key = K0 ∧ l1.map St.key = K1 := by
  obtain ⟨l0, l1, ⟨A0', A1', c0', c1', e, h0, h1⟩, h2, h3⟩ := h
  simp only [Value.agg.injEq, Array.mk.injEq, List.cons.injEq, Value.slice.injEq, and_true, true_and] at e
  obtain ⟨⟨rfl, rfl⟩, rfl, rfl⟩ := e
  exact ⟨l0, l1, h0, h1, h2, h3⟩
theorem key_at {w : World} {A : Option Addr} {n c : Nat} {l : List St} (h : RowV w A n c l) {j : Nat} {d : List UInt8} {k : Int} (hj : (l.map St.key)[j]? = some (d, k)) :
    ∃ a D cd, A = some a ∧ w.cell? (a.add (j * 2)) = some (.slice D d.length cd) ∧ BytesV w D d.length cd d := by
  rw [List.getElem?_map] at hj
  obtain ⟨s, hs, he⟩ := Option.map_eq_some_iff.1 hj
  obtain ⟨a, ha, h1, -, h3⟩ := h.at hs
  have hd : s.d = d := (Prod.mk.inj he).1
  have hl : s.d.length = s.q := h3.len
  subst hd
  rw [← hl] at h1
  have h3' : BytesV w s.D s.q s.cd s.d := h3
  rw [← hl] at h3'
  exact ⟨a, s.D, s.cd, ha, h1, h3'⟩
theorem accright_K {v : Value} {X : WldK} {w : World} (h : WldV w v X) :
    Calls Try.prog 35 #[v] w fun e w' => e = .returned (.bool (rightX X)) ∧ Ext w w' := by
  obtain ⟨T, C, ws, R, n, K0, K1⟩ := X
  obtain ⟨A, q, c, A0, A1, c0, c1, rfl, hw, hd⟩ := h
  obtain ⟨l0, l1, h0, h1, rfl, rfl⟩ := hd.rows
  simp only at *
  rw [← rightW_X h0 h1, hw.len]
  exact accright_any T C A q c R A0 A1 n c0 n c1 l0 l1 w h0 h1
end Go.Proofs.Ytennnhfaghdeoaa
