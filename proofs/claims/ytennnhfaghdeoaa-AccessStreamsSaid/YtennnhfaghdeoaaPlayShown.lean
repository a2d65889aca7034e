import Derived.Test.YtennnhfaghdeoaaPlayAsk
namespace Go.Proofs.Ytennnhfaghdeoaa
open Go.RowKit

/-! The example of chapter 11. -/
theorem flat_at {α : Type} (f : α → List Value) (m : Nat) (hf : ∀ x, (f x).length = m) : ∀ (l : List α) (j : Nat) (x : α), l[j]? = some x → ∀ k, k < m → (l.flatMap f)[j * m + k]? = (f x)[k]?
  | [], j, x, h, k, hk => by simp at h
  | y :: l, 0, x, h, k, hk => by
    obtain rfl : y = x := by simpa using h
    rw [List.flatMap_cons, List.getElem?_append_left (by rw [hf]; omega)]
    simp
  | y :: l, j + 1, x, h, k, hk => by
    rw [List.flatMap_cons, List.getElem?_append_right (by rw [hf, Nat.succ_mul]; omega), hf]
    rw [show (j + 1) * m + k - m = j * m + k by rw [Nat.succ_mul]; omega]
    exact flat_at f m hf l j x (by simpa using h) k hk
theorem add_at (g i : Nat) : (⟨g, 0, none⟩ : Addr).add i = ⟨g, i, none⟩ := by unfold Addr.add; split <;> simp_all
theorem AccsV.of_heap {w : World} {g c : Nat} {T : TypeId} {fr : Nat × Nat} {l : List Acc} {cs : Array Value} (h : w.heap[g]? = some (.cells cs T fr)) (hc : cs = (l.flatMap fun x => x.cells.toList).toArray) : AccsV w (some ⟨g, 0, none⟩) l.length c l := by
  subst hc
  refine ⟨rfl, fun j x hj => ⟨_, rfl, fun k v hk => ?_⟩⟩
  have hk6 : k < 6 := (Array.getElem?_eq_some_iff.1 hk).1
  rw [add_add3, add_at]
  have := flat_at (fun x : Acc => x.cells.toList) 6 (fun _ => rfl) l j x hj k hk6
  simp only [World.cell?, h, Option.isSome_none, Bool.false_eq_true, if_false]
  simp only [List.getElem?_toArray]
  rw [this]
  simpa using hk
def Res.cells (r : Res) : List Value := [.int .u64 r.n, .slice r.A r.k r.c, .bool r.fail]
theorem LogV.of_heap {w : World} {g c : Nat} {T : TypeId} {fr : Nat × Nat} {l : List Res} {cs : Array Value} (hs : l.length ≤ 65536) (h : w.heap[g]? = some (.cells cs T fr)) (hc : cs = (l.flatMap Res.cells).toArray) : LogV w (some ⟨g, 0, none⟩) l.length c l := by
  subst hc
  have key : ∀ (j : Nat) (r : Res), l[j]? = some r → ∀ k, k < 3 → w.cell? ⟨g, j * 3 + k, none⟩ = (Res.cells r)[k]? := fun j r hj k hk => by
    have := flat_at Res.cells 3 (fun _ => rfl) l j r hj k hk
    simp only [World.cell?, h, Option.isSome_none, Bool.false_eq_true, if_false]
    simp only [List.getElem?_toArray]
    rw [this]
  refine ⟨rfl, hs, fun j r hj => ⟨_, rfl, ?_, ?_, ?_⟩⟩
  · rw [add_at]; exact key j r hj 0 (by omega)
  · rw [add_add3, add_at]; exact key j r hj 1 (by omega)
  · rw [add_add3, add_at]; exact key j r hj 2 (by omega)
theorem log_nil (w : World) : LogV w none 0 0 [] := ⟨rfl, Nat.zero_le _, fun j r h => by simp at h⟩
set_option maxRecDepth 100000 in
set_option maxHeartbeats 4000000 in
theorem shown11_any (w : World) : Calls Try.prog 14 #[] w fun e w' => e = .returned (.bool true) ∧ Ext w w' := by
  have hm1 : ∀ W : World, (Instr.build 42 #[(0, .int .i64 0), (1, .int .i64 4)]).run Try.prog W = .ok (.agg #[.int .i64 0, .int .i64 4, .int .u64 0, .int .u64 0, .slice none 0 0, .slice none 0 0]) W := fun _ => by kernel_rfl
  have hm2 : ∀ W : World, (Instr.build 42 #[(0, .int .i64 0), (1, .int .i64 5)]).run Try.prog W = .ok (.agg #[.int .i64 0, .int .i64 5, .int .u64 0, .int .u64 0, .slice none 0 0, .slice none 0 0]) W := fun _ => by kernel_rfl
  have hmr : ∀ (n : Int) (W : World), (Instr.build 51 #[(0, .int .u64 n)]).run Try.prog W = .ok (.agg #[.int .u64 n, .slice none 0 0, .bool false]) W := fun _ _ => by kernel_rfl
  have hs2 : ∀ (W : World) (a b c d e f a' b' c' d' e' f' : Value), (Instr.buildSlice 22 2 #[(0, .agg #[a, b, c, d, e, f]), (1, .agg #[a', b', c', d', e', f'])]).run Try.prog W = .ok (.slice (some ⟨W.heap.size, 0, none⟩) 2 2) (W.alloc (.cells #[a, b, c, d, e, f, a', b', c', d', e', f'] 42)) := fun _ _ _ _ _ _ _ _ _ _ _ _ _ => by kernel_rfl
  have hr1 : ∀ (W : World) (a b c : Value), (Instr.buildSlice 39 1 #[(0, .agg #[a, b, c])]).run Try.prog W = .ok (.slice (some ⟨W.heap.size, 0, none⟩) 1 1) (W.alloc (.cells #[a, b, c] 51)) := fun _ _ _ _ => by kernel_rfl
  have hr3 : ∀ (W : World) (a b c a' b' c' a2 b2 c2 : Value), (Instr.buildSlice 39 3 #[(0, .agg #[a, b, c]), (1, .agg #[a', b', c']), (2, .agg #[a2, b2, c2])]).run Try.prog W = .ok (.slice (some ⟨W.heap.size, 0, none⟩) 3 3) (W.alloc (.cells #[a, b, c, a', b', c', a2, b2, c2] 51)) := fun _ _ _ _ _ _ _ _ _ _ => by kernel_rfl
  go_enter Try.func14, Try.ntmps14
  go_upto_region 2 with (fail)
  have hW : Ext w (w.alloc (.cells #[.int .i64 0, .int .i64 4, .int .u64 0, .int .u64 0, .slice none 0 0, .slice none 0 0, .int .i64 0, .int .i64 5, .int .u64 0, .int .u64 0, .slice none 0 0, .slice none 0 0] 42)) := (Below.refl _ w).alloc (Nat.le_refl _) _
  have hg : (w.alloc (.cells #[.int .i64 0, .int .i64 4, .int .u64 0, .int .u64 0, .slice none 0 0, .slice none 0 0, .int .i64 0, .int .i64 5, .int .u64 0, .int .u64 0, .slice none 0 0, .slice none 0 0] 42)).heap[w.heap.size]? = some (.cells #[.int .i64 0, .int .i64 4, .int .u64 0, .int .u64 0, .slice none 0 0, .slice none 0 0, .int .i64 0, .int .i64 5, .int .u64 0, .int .u64 0, .slice none 0 0, .slice none 0 0] 42 (0, 0)) := heap_alloc_new w _
  generalize w.alloc (.cells #[.int .i64 0, .int .i64 4, .int .u64 0, .int .u64 0, .slice none 0 0, .slice none 0 0, .int .i64 0, .int .i64 5, .int .u64 0, .int .u64 0, .slice none 0 0, .slice none 0 0] 42) = W at *
  generalize w.heap.size = g at *
  have hacc : AccsV W (some ⟨g, 0, none⟩) 2 2 [⟨0, 4, 0, 0, none, 0, 0, none, 0, 0⟩, ⟨0, 5, 0, 0, none, 0, 0, none, 0, 0⟩] := AccsV.of_heap (l := [⟨0, 4, 0, 0, none, 0, 0, none, 0, 0⟩, ⟨0, 5, 0, 0, none, 0, 0, none, 0, 0⟩]) hg rfl
  clear hg
  generalize hL : ([⟨0, 4, 0, 0, none, 0, 0, none, 0, 0⟩, ⟨0, 5, 0, 0, none, 0, 0, none, 0, 0⟩] : List Acc) = L at hacc
  -- the first one
  go_wp2_with fail
  refine (line_any (some ⟨g, 0, none⟩) 2 2 L none 0 0 [] _ hacc (by omega) (log_nil _)).mono ?_
  rintro e w1 ⟨rfl, hx1⟩
  rw [show lineEnd L [] = .returned (.tuple #[.agg #[.int .i64 0, .int .i64 4, .int .u64 0, .int .u64 0, .slice none 0 0, .slice none 0 0], .agg outZero, .bool false]) by subst hL; rfl]
  simp only [outZero]
  go_upto_region 3 with (fail)
  obtain ⟨hx2, -, ha2, -⟩ := two_boxes w1 (.cells #[.int .i64 0, .int .i64 4, .int .u64 0, .int .u64 0, .slice none 0 0, .slice none 0 0] 42) (.cells #[.int .i64 0, .bool false, .int .i64 0, .int .u64 0, .slice none 0 0] 46)
  generalize (w1.alloc (.cells #[.int .i64 0, .int .i64 4, .int .u64 0, .int .u64 0, .slice none 0 0, .slice none 0 0] 42)).alloc (.cells #[.int .i64 0, .bool false, .int .i64 0, .int .u64 0, .slice none 0 0] 46) = W2 at *
  generalize w1.heap.size = g1 at *
  replace hacc := hacc.ext (hx1.trans hx2)
  replace hW := hW.trans (hx1.trans hx2)
  clear hx1 hx2
  -- the second one
  go_wp2_with fail
  have hlg : LogV (W2.alloc (.cells #[.int .u64 7, .slice none 0 0, .bool false] 51)) (some ⟨W2.heap.size, 0, none⟩) 1 1 [⟨7, none, 0, 0, false⟩] := LogV.of_heap (l := [⟨7, none, 0, 0, false⟩]) (by simp) (heap_alloc_new W2 _) rfl
  have hx3 : Ext W2 (W2.alloc (.cells #[.int .u64 7, .slice none 0 0, .bool false] 51)) := (Below.refl _ W2).alloc (Nat.le_refl _) _
  refine (line_any (some ⟨g, 0, none⟩) 2 2 L _ 1 1 [⟨7, none, 0, 0, false⟩] _ (hacc.ext hx3) (by omega) hlg).mono ?_
  rintro e w3 ⟨rfl, hx4⟩
  rw [show lineEnd L [⟨7, none, 0, 0, false⟩] = .returned (.tuple #[.agg #[.int .i64 0, .int .i64 5, .int .u64 0, .int .u64 0, .slice none 0 0, .slice none 0 0], .agg outZero, .bool false]) by subst hL; rfl]
  simp only [outZero]
  go_upto_region 4 with (fail)
  obtain ⟨hx5, -, ha5, -⟩ := two_boxes w3 (.cells #[.int .i64 0, .int .i64 5, .int .u64 0, .int .u64 0, .slice none 0 0, .slice none 0 0] 42) (.cells #[.int .i64 0, .bool false, .int .i64 0, .int .u64 0, .slice none 0 0] 46)
  generalize (w3.alloc (.cells #[.int .i64 0, .int .i64 5, .int .u64 0, .int .u64 0, .slice none 0 0, .slice none 0 0] 42)).alloc (.cells #[.int .i64 0, .bool false, .int .i64 0, .int .u64 0, .slice none 0 0] 46) = W5 at *
  generalize w3.heap.size = g3 at *
  replace hx5 := (hx3.trans hx4).trans hx5
  replace ha2 := heap_ext ha2 hx5
  replace hacc := hacc.ext hx5
  replace hW := hW.trans hx5
  clear hx3 hx4 hx5 hlg
  -- the third one
  go_wp2_with fail
  have hlg : LogV (W5.alloc (.cells #[.int .u64 7, .slice none 0 0, .bool false, .int .u64 8, .slice none 0 0, .bool false, .int .u64 9, .slice none 0 0, .bool false] 51)) (some ⟨W5.heap.size, 0, none⟩) 3 3 [⟨7, none, 0, 0, false⟩, ⟨8, none, 0, 0, false⟩, ⟨9, none, 0, 0, false⟩] :=
    LogV.of_heap (l := [⟨7, none, 0, 0, false⟩, ⟨8, none, 0, 0, false⟩, ⟨9, none, 0, 0, false⟩]) (by simp) (heap_alloc_new W5 _) rfl
  have hx6 : Ext W5 (W5.alloc (.cells #[.int .u64 7, .slice none 0 0, .bool false, .int .u64 8, .slice none 0 0, .bool false, .int .u64 9, .slice none 0 0, .bool false] 51)) := (Below.refl _ W5).alloc (Nat.le_refl _) _
  refine (line_any (some ⟨g, 0, none⟩) 2 2 L _ 3 3 [⟨7, none, 0, 0, false⟩, ⟨8, none, 0, 0, false⟩, ⟨9, none, 0, 0, false⟩] _ (hacc.ext hx6) (by omega) hlg).mono ?_
  rintro e w6 ⟨rfl, hx7⟩
  rw [show lineEnd L [⟨7, none, 0, 0, false⟩, ⟨8, none, 0, 0, false⟩, ⟨9, none, 0, 0, false⟩] = .returned (.tuple #[.agg accZero, .agg #[.int .i64 0, .bool false, .int .i64 2, .int .u64 15, .slice none 0 0], .bool true]) by subst hL; rfl]
  simp only [accZero]
  go_upto_region 5 with (fail)
  obtain ⟨hx8, -, -, ha8⟩ := two_boxes w6 (.cells #[.int .i64 0, .int .i64 0, .int .u64 0, .int .u64 0, .slice none 0 0, .slice none 0 0] 42) (.cells #[.int .i64 0, .bool false, .int .i64 2, .int .u64 15, .slice none 0 0] 46)
  generalize (w6.alloc (.cells #[.int .i64 0, .int .i64 0, .int .u64 0, .int .u64 0, .slice none 0 0, .slice none 0 0] 42)).alloc (.cells #[.int .i64 0, .bool false, .int .i64 2, .int .u64 15, .slice none 0 0] 46) = W8 at *
  generalize w6.heap.size = g6 at *
  replace hx8 := (hx6.trans hx7).trans hx8
  replace ha2 := heap_ext ha2 hx8
  replace ha5 := heap_ext ha5 hx8
  replace hW := hW.trans hx8
  have c1 : W8.cell? ⟨g1, 1, none⟩ = some (.int .i64 4) := by simp [World.cell?, ha2]
  have c2 : W8.cell? ⟨g3, 1, none⟩ = some (.int .i64 5) := by simp [World.cell?, ha5]
  have c3 : W8.cell? ⟨g6 + 1, 2, none⟩ = some (.int .i64 2) := by simp [World.cell?, ha8]
  have c4 : W8.cell? ⟨g6 + 1, 3, none⟩ = some (.int .u64 15) := by simp [World.cell?, ha8]
  go_wp2
  go_ret
  exact ⟨rfl, hW⟩
end Go.Proofs.Ytennnhfaghdeoaa
