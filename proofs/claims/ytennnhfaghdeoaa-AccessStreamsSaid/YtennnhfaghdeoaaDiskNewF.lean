import Derived.Test.YtennnhfaghdeoaaDiskOps
namespace Go.Proofs.Ytennnhfaghdeoaa
open Go.RowKit

/-! disk.New, disk.Crash. -/
set_option maxRecDepth 100000 in
set_option maxHeartbeats 1000000 in
theorem dnew_no (t : Int) (w : World) (ht : t < 1 ∨ 64 < t) :
    Calls Try.prog 63 #[.int .i64 t] w fun e w' => e = .returned (.tuple #[.agg #[.int .u64 0, .slice none 0 0, .slice none 0 0], .int .i64 1]) ∧ Ext w w' := by
  have hb : ∀ W : World, (Instr.build 30 #[]).run Try.prog W = .ok (.agg #[.int .u64 0, .slice none 0 0, .slice none 0 0]) W := fun _ => by kernel_rfl
  have hE : Ext w (w.alloc (.cells #[.int .u64 0, .slice none 0 0, .slice none 0 0] 30)) := (Below.refl _ w).alloc (Nat.le_refl _) _
  rcases ht with h | h
  · go_enter Try.func63, Try.ntmps63
    go_wp2
    refine bodyPost_ret (v := .tuple #[.agg #[.int .u64 0, .slice none 0 0, .slice none 0 0], .int .i64 1]) (by simp [results, Try.results63, go_sem]) rfl ⟨rfl, ?_⟩
    exact hE
  · have h2 : ¬ t < 1 := by omega
    go_enter Try.func63, Try.ntmps63
    go_wp2
    refine bodyPost_ret (v := .tuple #[.agg #[.int .u64 0, .slice none 0 0, .slice none 0 0], .int .i64 1]) (by simp [results, Try.results63, go_sem]) rfl ⟨rfl, ?_⟩
    exact hE
/-- a box is written, and a row made -/
theorem box_made {w wr : World} {g i : Nat} {u : Value} {cs C : Array Value} {T : TypeId} (hg : wr.heap[g]? = some (.cells cs T (0, 0))) (hx : Ext w wr) (hw : w.heap.size ≤ g) :
    ((wr.setCell ⟨g, i, none⟩ u).alloc (.cells C 90)).heap[g]? = some (.cells (cs.setIfInBounds i u) T (0, 0)) ∧ ((wr.setCell ⟨g, i, none⟩ u).alloc (.cells C 90)).heap[wr.heap.size]? = some (.cells C 90 (0, 0)) ∧
      Ext w ((wr.setCell ⟨g, i, none⟩ u).alloc (.cells C 90)) ∧ ∀ (k : Nat) (o : Obj), k ≠ g → wr.heap[k]? = some o → ((wr.setCell ⟨g, i, none⟩ u).alloc (.cells C 90)).heap[k]? = some o := by
  have h1 : (wr.setCell ⟨g, i, none⟩ u).heap[g]? = some (.cells (cs.setIfInBounds i u) T (0, 0)) := heap_setCell_at hg
  have hs : (wr.setCell ⟨g, i, none⟩ u).heap.size = wr.heap.size := by simp [World.setCell]
  have hx2 : Ext (wr.setCell ⟨g, i, none⟩ u) ((wr.setCell ⟨g, i, none⟩ u).alloc (.cells C 90)) := (Below.refl _ _).alloc (Nat.le_refl _) _
  refine ⟨heap_ext h1 hx2, by rw [← hs]; exact heap_alloc_new _ _, Ext.trans (show Ext w (wr.setCell ⟨g, i, none⟩ u) from hx.setCell hw _) hx2, fun k o hk ho => heap_ext ?_ hx2⟩
  rw [Below.heap_setCell _ _ _ _ hk]; exact ho
set_option maxRecDepth 100000 in
set_option maxHeartbeats 4000000 in
theorem dnew_yes (t : Nat) (w : World) (h1 : 1 ≤ t) (h2 : t ≤ 64) :
    Calls Try.prog 63 #[.int .i64 t] w fun e w' => ∃ (A0 A1 : Option Addr) (c0 c1 : Nat), e = .returned (.tuple #[.agg #[.int .u64 0, .slice A0 t c0, .slice A1 t c1], .int .i64 0]) ∧ RowV w' A0 t c0 (List.replicate t St.zero) ∧ RowV w' A1 t c1 (List.replicate t St.zero) ∧ Ext w w' := by
  have hmk := run_mkrow t (by omega)
  have h1' : ¬ (t : Int) < 1 := by omega
  have h2' : ¬ (64 : Int) < (t : Int) := by omega
  generalize hC : (rowCells (List.replicate t St.zero)).toArray = C at *
  go_enter Try.func63, Try.ntmps63
  go_upto_region 4 with (fail)
  obtain ⟨hW, hE, hO⟩ := two_boxes7 w (.cells #[.int .u64 0, .slice none 0 0, .slice none 0 0] 30) (.cells #[.int .u64 0, .slice none 0 0, .slice none 0 0] 30)
  generalize (w.alloc (.cells #[.int .u64 0, .slice none 0 0, .slice none 0 0] 30)).alloc (.cells #[.int .u64 0, .slice none 0 0, .slice none 0 0] 30) = W at *
  go_wp2
  go_loopw [13] (fun i wr => Ext w wr ∧ wr.heap[w.heap.size]? = some (.cells #[.int .u64 0, .slice none 0 0, .slice none 0 0] 30 (0, 0)) ∧
    ((i = .int .i64 0 ∧ wr.heap[w.heap.size + 1]? = some (.cells #[.int .u64 0, .slice none 0 0, .slice none 0 0] 30 (0, 0))) ∨
     (∃ g0, i = .int .i64 1 ∧ wr.heap[w.heap.size + 1]? = some (.cells #[.int .u64 0, .slice (some ⟨g0, 0, none⟩) t t, .slice none 0 0] 30 (0, 0)) ∧ wr.heap[g0]? = some (.cells C 90 (0, 0)) ∧ w.heap.size + 1 < g0) ∨
     (∃ g0 g1, i = .int .i64 2 ∧ wr.heap[w.heap.size + 1]? = some (.cells #[.int .u64 0, .slice (some ⟨g0, 0, none⟩) t t, .slice (some ⟨g1, 0, none⟩) t t] 30 (0, 0)) ∧ wr.heap[g0]? = some (.cells C 90 (0, 0)) ∧ wr.heap[g1]? = some (.cells C 90 (0, 0)) ∧ w.heap.size + 1 < g0 ∧ w.heap.size + 1 < g1))) (fun i _ => 2 - (intOf i).toNat)
  case atStart => exact ⟨hW, hE, .inl ⟨rfl, hO⟩⟩
  case round =>
    clear hW hE hO
    obtain ⟨hx, hE, ⟨rfl, hO⟩ | ⟨g0, rfl, hO, hg0, hl0⟩ | ⟨g0, g1, rfl, hO, hg0, hg1, hl0, hl1⟩⟩ := hrel
    · have hlt : w.heap.size + 1 < wr.heap.size := (Array.getElem?_eq_some_iff.1 hO).1
      have d0 : wr.cell? ⟨w.heap.size + 1, 0, none⟩ = some (.int .u64 0) := by simp [World.cell?, hO]
      have df0 : wr.frozen? ⟨w.heap.size + 1, 0, none⟩ = false := by simp [World.frozen?, hO]
      have d1 : wr.cell? ⟨w.heap.size + 1, 1, none⟩ = some (.slice none 0 0) := by simp [World.cell?, hO]
      have df1 : wr.frozen? ⟨w.heap.size + 1, 1, none⟩ = false := by simp [World.frozen?, hO]
      have d2 : wr.cell? ⟨w.heap.size + 1, 2, none⟩ = some (.slice none 0 0) := by simp [World.cell?, hO]
      have df2 : wr.frozen? ⟨w.heap.size + 1, 2, none⟩ = false := by simp [World.frozen?, hO]
      have HE := Lib.hid hE
      have HO := Lib.hid hO
      clear hE hO
      have hne1 : ¬ w.heap.size + 1 = wr.heap.size := by omega
      go_wp2
      obtain ⟨b1, b2, b3, b4⟩ := box_made (i := 1) (u := .slice (some ⟨wr.heap.size, 0, none⟩) t t) (C := C) HO.out hx (by omega)
      go_roundw
      case rel => exact ⟨b3, b4 _ _ (by omega) HE.out, .inr (.inl ⟨wr.heap.size, by go_num, b1, b2, by omega⟩)⟩
      case measure => simp [intOf]
    · have hlt : w.heap.size + 1 < wr.heap.size := (Array.getElem?_eq_some_iff.1 hO).1
      have d0 : wr.cell? ⟨w.heap.size + 1, 0, none⟩ = some (.int .u64 0) := by simp [World.cell?, hO]
      have df0 : wr.frozen? ⟨w.heap.size + 1, 0, none⟩ = false := by simp [World.frozen?, hO]
      have d1 : wr.cell? ⟨w.heap.size + 1, 1, none⟩ = some (.slice (some ⟨g0, 0, none⟩) t t) := by simp [World.cell?, hO]
      have df1 : wr.frozen? ⟨w.heap.size + 1, 1, none⟩ = false := by simp [World.frozen?, hO]
      have d2 : wr.cell? ⟨w.heap.size + 1, 2, none⟩ = some (.slice none 0 0) := by simp [World.cell?, hO]
      have df2 : wr.frozen? ⟨w.heap.size + 1, 2, none⟩ = false := by simp [World.frozen?, hO]
      have HE := Lib.hid hE
      have HO := Lib.hid hO
      clear hE hO
      have hne1 : ¬ w.heap.size + 1 = wr.heap.size := by omega
      go_wp2
      obtain ⟨b1, b2, b3, b4⟩ := box_made (i := 2) (u := .slice (some ⟨wr.heap.size, 0, none⟩) t t) (C := C) HO.out hx (by omega)
      go_roundw
      case rel => exact ⟨b3, b4 _ _ (by omega) HE.out, .inr (.inr ⟨g0, wr.heap.size, by go_num, b1, b4 _ _ (by omega) hg0, b2, by omega, by omega⟩)⟩
      case measure => simp [intOf]
    · have hlt : w.heap.size + 1 < wr.heap.size := (Array.getElem?_eq_some_iff.1 hO).1
      have d0 : wr.cell? ⟨w.heap.size + 1, 0, none⟩ = some (.int .u64 0) := by simp [World.cell?, hO]
      have d1 : wr.cell? ⟨w.heap.size + 1, 1, none⟩ = some (.slice (some ⟨g0, 0, none⟩) t t) := by simp [World.cell?, hO]
      have d2 : wr.cell? ⟨w.heap.size + 1, 2, none⟩ = some (.slice (some ⟨g1, 0, none⟩) t t) := by simp [World.cell?, hO]
      have e0 : wr.cell? ⟨w.heap.size, 0, none⟩ = some (.int .u64 0) := by simp [World.cell?, hE]
      have ef0 : wr.frozen? ⟨w.heap.size, 0, none⟩ = false := by simp [World.frozen?, hE]
      have e1 : wr.cell? ⟨w.heap.size, 1, none⟩ = some (.slice none 0 0) := by simp [World.cell?, hE]
      have ef1 : wr.frozen? ⟨w.heap.size, 1, none⟩ = false := by simp [World.frozen?, hE]
      have e2 : wr.cell? ⟨w.heap.size, 2, none⟩ = some (.slice none 0 0) := by simp [World.cell?, hE]
      have ef2 : wr.frozen? ⟨w.heap.size, 2, none⟩ = false := by simp [World.frozen?, hE]
      clear hE hO
      go_wp2
      refine bodyPost_ret (v := .tuple #[.agg #[.int .u64 0, .slice (some ⟨g0, 0, none⟩) t t, .slice (some ⟨g1, 0, none⟩) t t], .int .i64 0]) (by simp [results, Try.results63, go_sem, e0, e1, e2]) rfl ⟨_, _, _, _, rfl, RowV.made (fr := (0, 0)) (T := 90) ?_ (by simp) (by omega) zero_ok, RowV.made (fr := (0, 0)) (T := 90) ?_ (by simp) (by omega) zero_ok, ?_⟩
      · rw [hC]
        exact (setAll_other (g := w.heap.size) (k := g0) (by omega) [.int .u64 0, .slice (some ⟨g0, 0, none⟩) t t, .slice (some ⟨g1, 0, none⟩) t t] 0 wr).trans hg0
      · rw [hC]
        exact (setAll_other (g := w.heap.size) (k := g1) (by omega) [.int .u64 0, .slice (some ⟨g0, 0, none⟩) t t, .slice (some ⟨g1, 0, none⟩) t t] 0 wr).trans hg1
      · exact setAll_ext (g := w.heap.size) (vs := [.int .u64 0, .slice (some ⟨g0, 0, none⟩) t t, .slice (some ⟨g1, 0, none⟩) t t]) (i := 0) hx (Nat.le_refl _)
end Go.Proofs.Ytennnhfaghdeoaa
