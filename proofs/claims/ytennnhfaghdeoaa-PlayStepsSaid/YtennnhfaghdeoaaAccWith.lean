import Derived.Test.YtennnhfaghdeoaaAccBox
import Derived.Test.YtennnhfaghdeoaaDiskTurn
import Derived.Deep.CutRange
import Derived.Lib.Hide
namespace Go.Proofs.Ytennnhfaghdeoaa
open Go.RowKit

/-! wealdref10.with. -/
theorem own_some {w : World} {base n : Nat} {v : Value} {l : List Int} (h : w.ownsRow base 26 1 v n (wordsOf l)) (hn : l.length = n) (hp : 0 < n) :
    ∃ (gN cN : Nat), v = .slice (some ⟨gN, 0, none⟩) n cN ∧ OwnW w base gN cN l := by
  rcases h.2 with ⟨rfl, h'⟩ | ⟨g, cap, cur, rfl, h4⟩
  · omega
  · subst hn
    exact ⟨_, _, rfl, h⟩
set_option maxRecDepth 100000 in
set_option maxHeartbeats 2000000 in
theorem rwith_any (T C : Int) (A : Option Addr) (q c : Nat) (ws : List Int) (j : Nat) (z : Int) (w : World) (hA : WordsV w A q c ws) (hj : j < q) (hq : q ≤ 1000000) (hz : 0 ≤ z ∧ z < 18446744073709551616) :
    Calls Try.prog 78 #[.agg #[.int .i64 T, .int .i64 C, .slice A q c], .int .i64 (j : Int), .int .u64 z] w fun e w' => ∃ (A' : Option Addr) (c' : Nat), e = .returned (.agg #[.int .i64 T, .int .i64 C, .slice A' q c']) ∧ WordsV w' A' q c' (ws.set j z) ∧ Ext w w' := by
  have hlen := hA.len
  obtain ⟨i0, hi0, hz0, hz1, hz2⟩ := info_parts info_u64w
  have hbs : ∀ W : World, (Instr.buildSlice 23 0 #[]).run Try.prog W = .ok (.slice (some ⟨W.heap.size, 0, none⟩) 0 0) (W.alloc (.cells #[] 26)) := fun _ => by kernel_rfl
  obtain ⟨a0, rfl, -, -, -⟩ := hA.at hj
  have hjI : (j : Int) < (q : Int) := by omega
  go_enter Try.func78, Try.ntmps78
  go_upto_region 1 with (fail)
  obtain ⟨hW, hE, hO⟩ := two_boxes7 w (.cells #[.int .i64 T, .int .i64 C, .slice (some a0) q c] 25) (.cells #[.int .i64 0, .int .i64 0, .slice none 0 0] 25)
  generalize (w.alloc (.cells #[.int .i64 T, .int .i64 C, .slice (some a0) q c] 25)).alloc (.cells #[.int .i64 0, .int .i64 0, .slice none 0 0] 25) = W at *
  have hlt : w.heap.size + 1 < W.heap.size := (Array.getElem?_eq_some_iff.1 hO).1
  replace hA := hA.ext hW
  have e0 : W.cell? ⟨w.heap.size, 0, none⟩ = some (.int .i64 T) := by simp [World.cell?, hE]
  have e1 : W.cell? ⟨w.heap.size, 1, none⟩ = some (.int .i64 C) := by simp [World.cell?, hE]
  have e2 : W.cell? ⟨w.heap.size, 2, none⟩ = some (.slice (some a0) q c) := by simp [World.cell?, hE]
  have hWn : Ext W (W.alloc (.cells #[] 26)) := (Below.refl _ W).alloc (Nat.le_refl _) _
  have hown0 : (W.alloc (.cells #[] 26)).ownsRow W.heap.size 26 1 (.slice (some ⟨W.heap.size, 0, none⟩) 0 0) 0 [] :=
    ⟨by simp, .inr ⟨_, 0, #[], rfl, Nat.le_refl _, heap_alloc_new W _, Nat.le_refl _, Nat.zero_le _, by simp, by simp⟩⟩
  have e2w := hWn.cell e2
  go_upto_region 2 with (at_builtin; refine wpList_append_own_any rfl (.tmp 8) (.tmp 10) _ _ rfl W.heap.size i0 _ 1 8 Try.underlying23 hi0 hz0 hz1 hz2 rfl (by decide) _ 0 [] rfl hown0 (some a0) q c (wordsOf ws) rfl (by rw [wordsOf_length, hlen]; omega) (hA.cells.ext hWn) hA.none0 (wordsOf_one ws) (by simp only [maxLen]; omega) (by omega) (by simp) ?_; intro v1 w4 hown1 hb1)
  try simp only [Nat.zero_add, List.nil_append] at hown1
  have hx4 : Ext W w4 := Below.trans hWn hb1
  have hZ : ∃ (gN cN : Nat), v1 = .slice (some ⟨gN, 0, none⟩) q cN ∧ OwnW w4 W.heap.size gN cN ws := own_some hown1 hlen (by omega)
  obtain ⟨gN, cN, rfl, hown⟩ := hZ
  replace hE := heap_ext hE hx4
  replace hO := heap_ext hO hx4
  replace hW := hW.trans hx4
  clear e0 e1 e2 e2w hown1 hown0 hWn hb1 hbs hi0 hz0 hz1 hz2 hx4
  obtain ⟨hgN1, hgN2⟩ := hown.base
  obtain ⟨k0, k1⟩ := hown.at (i := j) (by omega)
  generalize W.heap.size = gW at *
  go_upto_region 3 with (fail)
  have hE6 : (w4.setCell ⟨gN, j, none⟩ (.int .u64 z)).heap[w.heap.size]? = _ := (Below.heap_setCell _ _ _ _ (by simp; omega)).trans hE
  have hO6 : (w4.setCell ⟨gN, j, none⟩ (.int .u64 z)).heap[w.heap.size + 1]? = _ := (Below.heap_setCell _ _ _ _ (by simp; omega)).trans hO
  have hW6 : Ext w (w4.setCell ⟨gN, j, none⟩ (.int .u64 z)) := hW.setCell (by simp; omega) _
  have hown6 := hown.set j z
  clear hE hO hW hown k0 k1
  generalize w4.setCell ⟨gN, j, none⟩ (.int .u64 z) = w6 at *
  have e0 : w6.cell? ⟨w.heap.size, 0, none⟩ = some (.int .i64 T) := by simp [World.cell?, hE6]
  have e1 : w6.cell? ⟨w.heap.size, 1, none⟩ = some (.int .i64 C) := by simp [World.cell?, hE6]
  have e2 : w6.cell? ⟨w.heap.size, 2, none⟩ = some (.slice (some a0) q c) := by simp [World.cell?, hE6]
  have o0 : w6.cell? ⟨w.heap.size + 1, 0, none⟩ = some (.int .i64 0) := by simp [World.cell?, hO6]
  have of0 : w6.frozen? ⟨w.heap.size + 1, 0, none⟩ = false := by simp [World.frozen?, hO6]
  have o1 : w6.cell? ⟨w.heap.size + 1, 1, none⟩ = some (.int .i64 0) := by simp [World.cell?, hO6]
  have of1 : w6.frozen? ⟨w.heap.size + 1, 1, none⟩ = false := by simp [World.frozen?, hO6]
  have o2 : w6.cell? ⟨w.heap.size + 1, 2, none⟩ = some (.slice none 0 0) := by simp [World.cell?, hO6]
  have of2 : w6.frozen? ⟨w.heap.size + 1, 2, none⟩ = false := by simp [World.frozen?, hO6]
  have hrng : ∀ y ∈ ws.set j z, 0 ≤ y ∧ y < 18446744073709551616 := fun y hy => by
    rcases List.mem_or_eq_of_mem_set hy with h | rfl
    · exact hA.rng y h
    · exact hz
  have hlq : (ws.set j z).length = q := by simp [hlen]
  have hfz : (((w6.setCell ⟨w.heap.size + 1, 0, none⟩ (.int .i64 T)).setCell ⟨w.heap.size + 1, 1, none⟩ (.int .i64 C)).setCell ⟨w.heap.size + 1, 2, none⟩ (.slice (some ⟨gN, 0, none⟩) q cN)).heap[gN]? = w6.heap[gN]? := setAll_other (g := w.heap.size + 1) (k := gN) (by omega) [.int .i64 T, .int .i64 C, .slice (some ⟨gN, 0, none⟩) q cN] 0 w6
  have hfo := fun (wz : World) (hz : wz.heap[gN]? = w6.heap[gN]?) => (hown6.kept hz).v hrng
  simp only [hlq] at hfo
  have hF : Ext w (((w6.setCell ⟨w.heap.size + 1, 0, none⟩ (.int .i64 T)).setCell ⟨w.heap.size + 1, 1, none⟩ (.int .i64 C)).setCell ⟨w.heap.size + 1, 2, none⟩ (.slice (some ⟨gN, 0, none⟩) q cN)) := setAll_ext (g := w.heap.size + 1) (vs := [.int .i64 T, .int .i64 C, .slice (some ⟨gN, 0, none⟩) q cN]) (i := 0) hW6 (by omega)
  have hfO : (((w6.setCell ⟨w.heap.size + 1, 0, none⟩ (.int .i64 T)).setCell ⟨w.heap.size + 1, 1, none⟩ (.int .i64 C)).setCell ⟨w.heap.size + 1, 2, none⟩ (.slice (some ⟨gN, 0, none⟩) q cN)).heap[w.heap.size + 1]? = some (.cells #[.int .i64 T, .int .i64 C, .slice (some ⟨gN, 0, none⟩) q cN] 25 (0, 0)) := setAll_all (vs := [.int .i64 T, .int .i64 C, .slice (some ⟨gN, 0, none⟩) q cN]) hO6 rfl
  clear hO6 hE6
  go_wp2_with fail
  generalize (((w6.setCell ⟨w.heap.size + 1, 0, none⟩ (.int .i64 T)).setCell ⟨w.heap.size + 1, 1, none⟩ (.int .i64 C)).setCell ⟨w.heap.size + 1, 2, none⟩ (.slice (some ⟨gN, 0, none⟩) q cN)) = wf at *
  clear o0 o1 o2
  have o0 : wf.cell? ⟨w.heap.size + 1, 0, none⟩ = some (.int .i64 T) := by simp [World.cell?, hfO]
  have o1 : wf.cell? ⟨w.heap.size + 1, 1, none⟩ = some (.int .i64 C) := by simp [World.cell?, hfO]
  have o2 : wf.cell? ⟨w.heap.size + 1, 2, none⟩ = some (.slice (some ⟨gN, 0, none⟩) q cN) := by simp [World.cell?, hfO]
  refine bodyPost_ret (v := .agg #[.int .i64 T, .int .i64 C, .slice (some ⟨gN, 0, none⟩) q cN]) (by simp [results, Try.results78, go_sem, o0, o1, o2]) rfl ⟨some ⟨gN, 0, none⟩, cN, rfl, hfo _ hfz, hF⟩
end Go.Proofs.Ytennnhfaghdeoaa
