import Derived.Test.YthncdpopacdekaaStream
import Derived.Lib.SlBytesConst
namespace Go.Proofs.Ythncdpopacdekaa
open Go.RowKit
theorem bytes_new (l : List UInt8) (W : World) (fr : Nat × Nat) (hl : l.length ≤ 65536) : BytesV (W.alloc (.cells (bytesOf l).toArray 5 fr)) (some ⟨W.heap.size, 0, none⟩) l.length l.length l := by
  refine ⟨rfl, Nat.le_refl _, by simp only [maxLen]; omega, (by intro h; cases h), fun _ => ⟨_, rfl, fun j u hu => ?_⟩⟩
  have h1 : (W.alloc (.cells (bytesOf l).toArray 5 fr)).heap[W.heap.size]? = some (.cells (bytesOf l).toArray 5 fr) := heap_alloc_new W _
  have h2 : (⟨W.heap.size, 0, none⟩ : Addr).add j = ⟨W.heap.size, j, none⟩ := by unfold Addr.add; split <;> simp_all
  rw [h2]
  simp only [World.cell?, h1, Option.isSome_none, Bool.false_eq_true, if_false]
  simpa using hu
theorem bytes_nil (W : World) : BytesV W none 0 0 [] := ⟨rfl, Nat.le_refl _, Nat.zero_le _, fun _ => rfl, Cells.nil _ _⟩
set_option maxHeartbeats 2000000 in
theorem shown6_any (w : World) : Calls Try.prog 13 #[] w fun e w' => e = .returned (.bool true) ∧ Ext w w' := by
  have kc := fun (w : World) (C : Array Value) (n c : Nat) => Lib.run_convert_bytes_const (P := Try.prog) w 22 5 C n c Try.underlying22 Try.underlying5
  have kc2 : ∀ (w : World) (o : Obj) (C : Array Value) (n c : Nat), (convert 22 22 (.slice (some ⟨w.heap.size + 1, 0, none⟩) n c)).run Try.prog ((w.alloc o).alloc (.cells C 5)) =
      .ok (.slice (some ⟨w.heap.size + 1, 0, none⟩) n c) ((w.alloc o).alloc (.cells C 5 (C.size, C.size + 1))) := fun w o C n c => by
    have := kc (w.alloc o) C n c
    simpa using this
  have hmk : ∀ (W : World) (x y : Int), (Instr.buildSlice 22 2 #[(0, .int .u8 x), (1, .int .u8 y)]).run Try.prog W = .ok (.slice (some ⟨W.heap.size, 0, none⟩) 2 2) (W.alloc (.cells #[.int .u8 x, .int .u8 y] 5)) := fun _ _ _ => by kernel_rfl
  have hb0 : ∀ W : World, (Instr.build 24 #[]).run Try.prog W = .ok (.agg #[.slice none 0 0, .int .i64 0]) W := fun _ => by kernel_rfl
  have hb1 : ∀ W : World, (Instr.build 24 #[(1, .int .i64 1)]).run Try.prog W = .ok (.agg #[.slice none 0 0, .int .i64 1]) W := fun _ => by kernel_rfl
  go_enter Try.func13, Try.ntmps13
  go_wp2_with fail
  refine (append_any none _ 0 0 2 2 0 [] [97, 98] _ (bytes_nil _) (bytes_new [97, 98] _ _ (by simp)) (by omega)).mono ?_
  rintro e w1 ⟨A1, c1, rfl, hV1, hx1⟩
  have hX1 : Ext w w1 := Ext.trans ((Below.refl _ w).alloc (Nat.le_refl _) _) hx1
  clear hx1
  go_wp2_with fail
  refine (sync_any A1 2 c1 0 (by omega) _).mono ?_
  rintro e w2 ⟨rfl, hx2⟩
  replace hV1 := hV1.ext hx2
  have hX2 := hX1.trans hx2
  clear hx2 hX1
  go_wp2_with fail
  have hB2 : BytesV ((w2.alloc (.cells #[.slice A1 2 c1, .int .i64 2] 24)).alloc (.cells #[.int .u8 99, .int .u8 100] 5 (2, 3))) (some ⟨w2.heap.size + 1, 0, none⟩) 2 2 [99, 100] := by
    have := bytes_new [99, 100] (w2.alloc (.cells #[.slice A1 2 c1, .int .i64 2] 24)) (2, 3) (by simp)
    simpa [bytesOf] using this
  refine (append_any A1 _ 2 c1 2 2 2 [97, 98] [99, 100] _ (hV1.ext ?_) hB2 (by omega)).mono ?_
  · exact ((Below.refl _ w2).alloc (Nat.le_refl _) _).alloc (by simp) _
  rintro e w3 ⟨A2, c2, rfl, hV2, hx3⟩
  have d0 := hx3.cell (p := ⟨w2.heap.size, 0, none⟩) (v := .slice A1 2 c1) (by simp [go_sem])
  have d1 := hx3.cell (p := ⟨w2.heap.size, 1, none⟩) (v := .int .i64 2) (by simp [go_sem])
  have hX3 : Ext w2 w3 := Ext.trans (((Below.refl _ w2).alloc (Nat.le_refl _) _).alloc (by simp) _) hx3
  have hz3 : w2.heap.size < w3.heap.size := by have := hx3.size; simp at this; omega
  replace hV1 := hV1.ext hX3
  clear hx3
  go_wp2_with fail
  refine (cut_any A2 4 c2 2 1 (by omega) hV2.le (by omega) (by omega) _).mono ?_
  rintro e w4 ⟨rfl, hx4⟩
  have e3 : cutN 4 2 1 = 3 := by decide
  simp only [e3]
  have hw3 : Ext w3 (w3.alloc (.cells #[.slice A2 4 c2, .int .i64 2] 24)) := (Below.refl _ w3).alloc (Nat.le_refl _) _
  have hX4 : Ext w3 w4 := hw3.trans hx4
  replace d0 := hX4.cell d0
  replace d1 := hX4.cell d1
  have d2 := hx4.cell (p := ⟨w3.heap.size, 0, none⟩) (v := .slice A2 4 c2) (by simp [go_sem])
  have d3 := hx4.cell (p := ⟨w3.heap.size, 1, none⟩) (v := .int .i64 2) (by simp [go_sem])
  have hz4 : w3.heap.size < w4.heap.size := by have := hx4.size; simp at this; omega
  have hV3 : BytesV w4 A2 3 3 [97, 98, 99] := ⟨rfl, Nat.le_refl _, by simp only [maxLen]; omega, fun h => by have := hV2.nil h; have := hV2.le; omega, ((hV2.cells.ext hX4).take 3)⟩
  have hw4 : Ext w4 (w4.alloc (.cells #[.slice A2 3 3, .int .i64 3] 24)) := (Below.refl _ w4).alloc (Nat.le_refl _) _
  have q1 := run_convert_bytesV (P := Try.prog) (hV3.ext hw4) Try.underlying22 Try.underlying5 Try.underlying9
  have q2 := run_convert_bytesV (P := Try.prog) ((hV1.ext hX4).ext hw4) Try.underlying22 Try.underlying5 Try.underlying9
  replace d0 := hw4.cell d0
  replace d1 := hw4.cell d1
  replace d2 := hw4.cell d2
  replace d3 := hw4.cell d3
  have r1 : rightB 2 4 = true := by decide
  have r2 : rightB 1 0 = false := by decide
  have hW : Ext w (w4.alloc (.cells #[.slice A2 3 3, .int .i64 3] 24)) := ((hX2.trans hX3).trans hX4).trans hw4
  clear hx4 hX4 hX3 hX2 hV1 hV2 hV3 hw3
  go_wp2_with (first
    | (go_at_call 15; refine (right_any _ _ _ _ _).mono ?_; rintro e w5 ⟨rfl, hx5⟩; replace hW := hW.trans hx5; clear hx5))
  go_ret
  exact ⟨rfl, hW⟩
end Go.Proofs.Ythncdpopacdekaa
