import Derived.Test.YtennnhfaghdeoaaPlayLine
namespace Go.Proofs.Ytennnhfaghdeoaa
open Go.RowKit

/-! play.Line. -/
def Acc.zero : Acc := ⟨0, 0, 0, 0, none, 0, 0, none, 0, 0⟩
/-- what a row of accesses asks, or answers -/
def lineEnd (l : List Acc) (rs : List Res) : Ending :=
  if l.length ≤ rs.length then .returned (.tuple #[.agg accZero, .agg (OutN.cells ⟨0, false, l.length, lineSum rs l.length⟩), .bool true])
  else .returned (.tuple #[.agg ((l[rs.length]?).elim accZero Acc.cells), .agg outZero, .bool false])
theorem three_boxes (w : World) (o0 o1 o2 : Obj) :
    Ext w (((w.alloc o0).alloc o1).alloc o2) ∧ (((w.alloc o0).alloc o1).alloc o2).heap.size = w.heap.size + 3 ∧
    (((w.alloc o0).alloc o1).alloc o2).heap[w.heap.size]? = some o0 ∧ (((w.alloc o0).alloc o1).alloc o2).heap[w.heap.size + 1]? = some o1 ∧ (((w.alloc o0).alloc o1).alloc o2).heap[w.heap.size + 1 + 1]? = some o2 := by
  refine ⟨((((Below.refl _ w).alloc (Nat.le_refl _) _).alloc (by simp) _).alloc (by simp; omega) _), by simp, ?_, ?_, ?_⟩
  · rw [Below.heap_alloc _ _ _ (by first | (simp; omega) | simp), Below.heap_alloc _ _ _ (by first | (simp; omega) | simp)]
    simpa using heap_alloc_new w o0
  · rw [Below.heap_alloc _ _ _ (by first | (simp; omega) | simp)]
    simpa using heap_alloc_new (w.alloc o0) o1
  · simpa using heap_alloc_new ((w.alloc o0).alloc o1) o2
theorem AccsV.low {w : World} {a : Addr} {n c : Nat} {l : List Acc} (h : AccsV w (some a) n c l) (hn : 0 < n) : a.block < w.heap.size := by
  obtain ⟨b, hb, hc⟩ := h.at_ 0 (l[0]'(by rw [h.len]; exact hn)) (List.getElem?_eq_getElem _)
  obtain rfl : a = b := Option.some.inj hb
  have := lt_of_cell (hc 0 _ rfl)
  rwa [add_block, add_block] at this
set_option maxRecDepth 100000 in
set_option maxHeartbeats 4000000 in
theorem line_any (A : Option Addr) (n c : Nat) (l : List Acc) (B : Option Addr) (k kc : Nat) (rs : List Res) (w : World) (hl : AccsV w A n c l) (hn : n ≤ 65536) (hlog : LogV w B k kc rs) :
    Calls Try.prog 17 #[.slice A n c, .slice B k kc] w fun e w' => e = lineEnd l rs ∧ Ext w w' := by
  have hmf : ∀ (fn : Fn) (first cap : Array Value) (w : World), (Instr.makeFunc fn first cap).run Try.prog w = .ok (.func fn first cap) w := fun _ _ _ _ => rfl
  have hlen : l.length = n := hl.len
  go_enter Try.func17, Try.ntmps17
  go_upto_region 1 with (fail)
  obtain ⟨hW, hsz, hL, hE, hO⟩ := three_boxes w (.cells #[.slice A n c] 22) (.cells #[.int .i64 0, .int .i64 0, .int .u64 0, .int .u64 0, .slice none 0 0, .slice none 0 0] 42) (.cells #[.int .i64 0, .bool false, .int .i64 0, .int .u64 0, .slice none 0 0] 46)
  generalize ((w.alloc (.cells #[.slice A n c] 22)).alloc (.cells #[.int .i64 0, .int .i64 0, .int .u64 0, .int .u64 0, .slice none 0 0, .slice none 0 0] 42)).alloc (.cells #[.int .i64 0, .bool false, .int .i64 0, .int .u64 0, .slice none 0 0] 46) = W at *
  have hprog : ∀ (gA gL : Nat) (W' : World), Ext W W' → W.heap.size ≤ gA → gA < W'.heap.size → DoAt W.heap.size W' gA gL rs →
      Calls Try.prog 77 (#[doV gA gL] ++ #[.pointer (some ⟨w.heap.size, 0, none⟩)]) W' fun e w' => (if n ≤ rs.length then e = .returned (.agg (OutN.cells ⟨0, false, n, lineSum rs n⟩)) else ∃ x, l[rs.length]? = some x ∧ e = needP x.cells) ∧ ExtB gA W' w' := fun gA gL W' hx h1 h2 hD =>
    line_prog A n c l gA gL w.heap.size W.heap.size (0, 0) rs W' ((hl.ext hW).ext hx) (fun a ha hn0 => by subst ha; have := hl.low hn0; omega) (heap_ext hL hx) (by omega) hn hD hx.size
  have hrun : Calls Try.prog 30 #[.func (.func 77) #[] #[.pointer (some ⟨w.heap.size, 0, none⟩)], .slice B k kc] W fun e w' =>
      ∃ (x : Acc) (o : OutN) (d : Bool), e = .returned (.tuple #[.agg x.cells, .agg o.cells, .bool d]) ∧ lineEnd l rs = e ∧ Ext W w' := by
    by_cases hle : n ≤ rs.length
    · refine (run_done 77 #[.pointer (some ⟨w.heap.size, 0, none⟩)] B k kc rs ⟨0, false, n, lineSum rs n⟩ W (hlog.ext hW) Try.call77 fun gA gL W' hx h1 h2 hD => (hprog gA gL W' hx h1 h2 hD).mono ?_).mono ?_
      · rintro e w' ⟨he, hB⟩
        rw [if_pos hle] at he
        exact ⟨he, hB⟩
      · rintro e w' ⟨rfl, hx⟩
        exact ⟨⟨0, 0, 0, 0, none, 0, 0, none, 0, 0⟩, _, true, rfl, by simp only [lineEnd, hlen, if_pos hle], hx⟩
    · have hlt : rs.length < l.length := by omega
      refine (run_stop 77 #[.pointer (some ⟨w.heap.size, 0, none⟩)] B k kc rs (l[rs.length]'hlt) W (hlog.ext hW) Try.call77 fun gA gL W' hx h1 h2 hD => (hprog gA gL W' hx h1 h2 hD).mono ?_).mono ?_
      · rintro e w' ⟨he, hB⟩
        rw [if_neg hle] at he
        obtain ⟨x, hx, he⟩ := he
        rw [List.getElem?_eq_getElem hlt] at hx
        cases hx
        exact ⟨he, hB⟩
      · rintro e w' ⟨rfl, hx⟩
        refine ⟨_, ⟨0, false, 0, 0⟩, false, rfl, ?_, hx⟩
        simp only [lineEnd, hlen, if_neg hle, List.getElem?_eq_getElem hlt, Option.elim]
  clear hprog
  go_wp2_with fail
  refine hrun.mono ?_
  rintro e w1 ⟨⟨x0, x1, x2, x3, x4, x5, x6, x7, x8, x9⟩, ⟨o0, o1, o2, o3⟩, d, rfl, hend, hx⟩
  have hE1 := heap_ext hE hx
  have hO1 := heap_ext hO hx
  have hx1 := hW.trans hx
  clear hE hO hL hx hW hl hlog
  simp only [Acc.cells, OutN.cells] at hend ⊢
  have e0 : w1.cell? ⟨w.heap.size + 1, 0, none⟩ = some (.int .i64 0) := by simp [World.cell?, hE1]
  have ef0 : w1.frozen? ⟨w.heap.size + 1, 0, none⟩ = false := by simp [World.frozen?, hE1]
  have e1 : w1.cell? ⟨w.heap.size + 1, 1, none⟩ = some (.int .i64 0) := by simp [World.cell?, hE1]
  have ef1 : w1.frozen? ⟨w.heap.size + 1, 1, none⟩ = false := by simp [World.frozen?, hE1]
  have e2 : w1.cell? ⟨w.heap.size + 1, 2, none⟩ = some (.int .u64 0) := by simp [World.cell?, hE1]
  have ef2 : w1.frozen? ⟨w.heap.size + 1, 2, none⟩ = false := by simp [World.frozen?, hE1]
  have e3 : w1.cell? ⟨w.heap.size + 1, 3, none⟩ = some (.int .u64 0) := by simp [World.cell?, hE1]
  have ef3 : w1.frozen? ⟨w.heap.size + 1, 3, none⟩ = false := by simp [World.frozen?, hE1]
  have e4 : w1.cell? ⟨w.heap.size + 1, 4, none⟩ = some (.slice none 0 0) := by simp [World.cell?, hE1]
  have ef4 : w1.frozen? ⟨w.heap.size + 1, 4, none⟩ = false := by simp [World.frozen?, hE1]
  have e5 : w1.cell? ⟨w.heap.size + 1, 5, none⟩ = some (.slice none 0 0) := by simp [World.cell?, hE1]
  have ef5 : w1.frozen? ⟨w.heap.size + 1, 5, none⟩ = false := by simp [World.frozen?, hE1]
  have d0 : w1.cell? ⟨w.heap.size + 1 + 1, 0, none⟩ = some (.int .i64 0) := by simp [World.cell?, hO1]
  have df0 : w1.frozen? ⟨w.heap.size + 1 + 1, 0, none⟩ = false := by simp [World.frozen?, hO1]
  have d1 : w1.cell? ⟨w.heap.size + 1 + 1, 1, none⟩ = some (.bool false) := by simp [World.cell?, hO1]
  have df1 : w1.frozen? ⟨w.heap.size + 1 + 1, 1, none⟩ = false := by simp [World.frozen?, hO1]
  have d2 : w1.cell? ⟨w.heap.size + 1 + 1, 2, none⟩ = some (.int .i64 0) := by simp [World.cell?, hO1]
  have df2 : w1.frozen? ⟨w.heap.size + 1 + 1, 2, none⟩ = false := by simp [World.frozen?, hO1]
  have d3 : w1.cell? ⟨w.heap.size + 1 + 1, 3, none⟩ = some (.int .u64 0) := by simp [World.cell?, hO1]
  have df3 : w1.frozen? ⟨w.heap.size + 1 + 1, 3, none⟩ = false := by simp [World.frozen?, hO1]
  have d4 : w1.cell? ⟨w.heap.size + 1 + 1, 4, none⟩ = some (.slice none 0 0) := by simp [World.cell?, hO1]
  have df4 : w1.frozen? ⟨w.heap.size + 1 + 1, 4, none⟩ = false := by simp [World.frozen?, hO1]
  clear hE1 hO1
  go_wp2
  refine bodyPost_ret (v := .tuple #[.agg #[.int .i64 x0, .int .i64 x1, .int .u64 x2, .int .u64 x3, .slice x4 x5 x6, .slice x7 x8 x9], .agg #[.int .i64 o0, .bool o1, .int .i64 o2, .int .u64 o3, .slice none 0 0], .bool d]) (by simp [results, Try.results17, go_sem, e0, e1, e2, e3, e4, e5, d0, d1, d2, d3, d4]) rfl ⟨hend.symm, ?_⟩
  exact setAll_ext (g := w.heap.size + 1 + 1) (vs := [.int .i64 o0, .bool o1, .int .i64 o2, .int .u64 o3, .slice none 0 0]) (i := 0) (setAll_ext (g := w.heap.size + 1) (vs := [.int .i64 x0, .int .i64 x1, .int .u64 x2, .int .u64 x3, .slice x4 x5 x6, .slice x7 x8 x9]) (i := 0) hx1 (by omega)) (by omega)
end Go.Proofs.Ytennnhfaghdeoaa
