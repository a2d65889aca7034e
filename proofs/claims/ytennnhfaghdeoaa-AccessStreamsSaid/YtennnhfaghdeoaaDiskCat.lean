import Derived.Test.YtennnhfaghdeoaaDiskOps
import Derived.Lib.AppendZeros
namespace Go.Proofs.Ytennnhfaghdeoaa
open Go.RowKit

/-! slices.Grow and slices.Concat at rows of streams; disk.Right. -/
set_option maxRecDepth 100000 in
set_option maxHeartbeats 1000000 in
theorem grow_any (n : Nat) (w : World) (hn : n ≤ 65536) :
    Calls Try.prog 99 #[.slice none 0 0, .int .i64 n] w fun e w' => ∃ v, e = .returned v ∧ w'.ownsRow w.heap.size 90 2 v 0 [] ∧ Ext w w' := by
  obtain ⟨i0, hi0, hz0, hz1, hz2⟩ := info_parts info_stream
  have hwn : IntKind.i64.wrap (n : Int) = (n : Int) := by rw [IntKind.wrap_i64]; omega
  have hneg : ¬ (n : Int) < 0 := by omega
  have hsl : ∀ W, (Instr.slice 27 (.slice none 0 0) none (some (.int .i64 0)) none).run Try.prog W = .ok (.slice none 0 0) W := fun W => by
    simp [Instr.slice, run_underlying Try.underlying27, Instr.sliceBounds, Instr.sliceBound, asIntOf, sizeOf, typeInfo, hi0]
  rcases Nat.eq_zero_or_pos n with h0 | h0
  · subst h0
    go_enter Try.func99, Try.ntmps99
    go_wp2
    go_ret
    exact ⟨_, rfl, World.ownsRow_nil _ _ _ _, Ext.refl _⟩
  · have hpos : 0 < (n : Int) := by omega
    have hrun := fun W => Lib.run_append_nil_zeros (P := Try.prog) W 27 3 27 90 i0 _ .i64 .i64 Try.underlying27 Try.underlying3 hi0 hz0 n h0 (by omega) (by omega) (by rw [hz2]; omega)
    have hcap1 := grownCap_ge w n 0 90
    have hcap2 := grownCap_le_maxLen w n 0 90 (by simp only [maxLen]; omega)
    have hsl2 : ∀ W cap, (Instr.slice 27 (.slice (some ⟨w.heap.size, 0, none⟩) n cap) none (some (.int .i64 0)) none).run Try.prog W = .ok (.slice (some ⟨w.heap.size, 0, none⟩) 0 cap) W := fun W cap => by
      simp [Instr.slice, run_underlying Try.underlying27, Instr.sliceBounds, Instr.sliceBound, asIntOf, sizeOf, typeInfo, hi0, Addr.add]
    go_enter Try.func99, Try.ntmps99
    go_wp2_with (at_builtin; refine Lib.wpList_append_run _ rfl _ _ _ _ rfl _ _ rfl rfl _ _ (hrun _) ?_)
    go_ret
    refine ⟨_, rfl, ⟨by simp, .inr ⟨_, _, _, rfl, Nat.le_refl _, heap_alloc_new w _, Nat.zero_le _, hcap2, ?_, by simp⟩⟩, Ext.new w _⟩
    rw [Array.size_append, size_zeroCells, size_zeroCells]
    simp
    omega
set_option maxRecDepth 100000 in
set_option maxHeartbeats 4000000 in
theorem concat_any (g : Nat) (A0 A1 : Option Addr) (n0 c0 n1 c1 : Nat) (l0 l1 : List St) (w : World) (hg0 : w.cell? ⟨g, 0, none⟩ = some (.slice A0 n0 c0)) (hg1 : w.cell? ⟨g, 1, none⟩ = some (.slice A1 n1 c1)) (h0 : RowV w A0 n0 c0 l0) (h1 : RowV w A1 n1 c1 l1) (hn0 : n0 ≤ 1000) (hn1 : n1 ≤ 1000) :
    Calls Try.prog 90 #[.slice (some ⟨g, 0, none⟩) 2 2] w fun e w' => ∃ v, e = .returned v ∧ OwnR w' w.heap.size v (n0 + n1) (l0 ++ l1) ∧ Ext w w' := by
  obtain ⟨i0, hi0, hz0, hz1, hz2⟩ := info_parts info_stream
  have hlen0 := h0.len
  have hlen1 := h1.len
  have hw0 : IntKind.i64.wrap (n0 : Int) = (n0 : Int) := by rw [IntKind.wrap_i64]; omega
  have hw1 : IntKind.i64.wrap ((n0 : Int) + (n1 : Int)) = (n0 : Int) + (n1 : Int) := by rw [IntKind.wrap_i64]; omega
  have hp0 : ¬ (n0 : Int) < 0 := by omega
  have hp1 : ¬ (n0 : Int) + (n1 : Int) < 0 := by omega
  go_enter Try.func90, Try.ntmps90
  go_wp2
  go_loopw [3, 11] (fun sz i wr => w = wr ∧ ((i = .int .i64 0 ∧ sz = .int .i64 0) ∨ (i = .int .i64 1 ∧ sz = .int .i64 n0) ∨ (i = .int .i64 2 ∧ sz = .int .i64 ((n0 : Int) + (n1 : Int))))) (fun _ i _ => 2 - (intOf i).toNat)
  case atStart => exact ⟨rfl, .inl ⟨rfl, rfl⟩⟩
  case round =>
    obtain ⟨rfl, ⟨rfl, rfl⟩ | ⟨rfl, rfl⟩ | ⟨rfl, rfl⟩⟩ := hrel
    · go_wp2
      go_roundw
      case rel => exact ⟨by trivial, .inr (.inl ⟨by go_num, by go_num⟩)⟩
      case measure => simp [intOf]
    · go_wp2
      go_roundw
      case rel => exact ⟨by trivial, .inr (.inr ⟨by go_num, by go_num⟩)⟩
      case measure => simp [intOf]
    · go_wp2_with fail
      have hgr := grow_any (n0 + n1) w (by omega)
      simp only [Int.natCast_add] at hgr
      refine hgr.mono ?_
      rintro e w1 ⟨v1, rfl, hown1, hx1⟩
      have hr1 : OwnR w1 w.heap.size v1 0 [] := ⟨hown1, fun s h => by cases h⟩
      clear hgr hown1 hw0 hw1 hp0 hp1
      go_wp2
      go_loopw [6, 27] (fun v i wq => Ext w wq ∧ ((i = .int .i64 0 ∧ OwnR wq w.heap.size v 0 []) ∨ (i = .int .i64 1 ∧ OwnR wq w.heap.size v n0 l0) ∨ (i = .int .i64 2 ∧ OwnR wq w.heap.size v (n0 + n1) (l0 ++ l1)))) (fun _ i _ => 2 - (intOf i).toNat)
      case atStart => exact ⟨hx1, .inl ⟨rfl, hr1⟩⟩
      case round =>
        clear hr1 hx1
        obtain ⟨hx, ⟨rfl, hr⟩ | ⟨rfl, hr⟩ | ⟨rfl, hr⟩⟩ := hrel
        · have d0 := hx.cell hg0
          go_wp2_with (at_builtin; go_loud (refine wpList_append_own_any rfl (.tmp 31) (.tmp 32) _ _ rfl w.heap.size i0 _ 2 32 Try.underlying27 hi0 hz0 hz1 hz2 rfl (by decide) _ 0 [] rfl hr.own A0 n0 c0 (rowCells l0) rfl (by rw [rowCells_length, hlen0]) (h0.cells.ext hx) h0.none0 (rowCells_one _) (by simp only [maxLen]; omega) (by omega) hx.size ?_); intro v2 w2 hown2 hb2)
          try simp only [Nat.zero_add, List.nil_append] at hown2
          have hx2 : Ext w w2 := Below.trans hx hb2
          go_roundw
          case rel => exact ⟨hx2, .inr (.inl ⟨by go_num, hown2, fun s hs => (h0.ok s hs).ext hx2⟩)⟩
          case measure => simp [intOf]
        · have d1 := hx.cell hg1
          go_wp2_with (at_builtin; go_loud (refine wpList_append_own_any rfl (.tmp 31) (.tmp 32) _ _ rfl w.heap.size i0 _ 2 32 Try.underlying27 hi0 hz0 hz1 hz2 rfl (by decide) _ n0 (rowCells l0) rfl hr.own A1 n1 c1 (rowCells l1) rfl (by rw [rowCells_length, hlen1]) (h1.cells.ext hx) h1.none0 (rowCells_one _) (by simp only [maxLen]; omega) (by omega) hx.size ?_); intro v2 w2 hown2 hb2)
          have hx2 : Ext w w2 := Below.trans hx hb2
          go_roundw
          case rel => exact ⟨hx2, .inr (.inr ⟨by go_num, by rw [rowCells_append]; exact hown2, fun s hs => by
            rcases List.mem_append.1 hs with hs | hs
            · exact (h0.ok s hs).ext hx2
            · exact (h1.ok s hs).ext hx2⟩)⟩
          case measure => simp [intOf]
        · go_wp2
          go_ret
          exact ⟨_, rfl, hr, hx⟩
/-- is a stream right? -/
def St.right (s : St) : Bool := rightB s.k s.q
/-- is a disk right? -/
def rightD (n0 n1 : Nat) (l0 l1 : List St) : Bool := decide (1 ≤ n0 ∧ n0 ≤ 64 ∧ n1 = n0) && (l0 ++ l1).all St.right
theorem two_cells (w : World) (u v : Value) (T : TypeId) : (w.alloc (.cells #[u, v] T)).cell? ⟨w.heap.size, 0, none⟩ = some u ∧ (w.alloc (.cells #[u, v] T)).cell? ⟨w.heap.size, 1, none⟩ = some v := by
  constructor <;> simp [go_sem]
set_option maxRecDepth 100000 in
set_option maxHeartbeats 4000000 in
theorem dright_any (R : Int) (A0 A1 : Option Addr) (n0 c0 n1 c1 : Nat) (l0 l1 : List St) (w : World) (h0 : RowV w A0 n0 c0 l0) (h1 : RowV w A1 n1 c1 l1) :
    Calls Try.prog 66 #[.agg #[.int .u64 R, .slice A0 n0 c0, .slice A1 n1 c1]] w fun e w' => e = .returned (.bool (rightD n0 n1 l0 l1)) ∧ Ext w w' := by
  have hlen0 := h0.len
  have hlen1 := h1.len
  have hcap0 := Nat.le_trans h0.le h0.cap
  have hcap1 := Nat.le_trans h1.le h1.cap
  simp only [maxLen] at hcap0 hcap1
  have hw0 : IntKind.i64.wrap (n0 : Int) = (n0 : Int) := by rw [IntKind.wrap_i64]; omega
  have hw1 : IntKind.i64.wrap (n1 : Int) = (n1 : Int) := by rw [IntKind.wrap_i64]; omega
  have hbs : ∀ (W : World) (A B : Option Addr) (n c m d : Nat), (Instr.buildSlice 153 2 #[(0, .slice A n c), (1, .slice B m d)]).run Try.prog W = .ok (.slice (some ⟨W.heap.size, 0, none⟩) 2 2) (W.alloc (.cells #[.slice A n c, .slice B m d] 27)) := fun _ _ _ _ _ _ _ => by kernel_rfl
  obtain ⟨b, hb0⟩ : ∃ b, b = rightD n0 n1 l0 l1 := ⟨_, rfl⟩
  rw [← hb0]
  go_enter Try.func66, Try.ntmps66
  go_upto_region 1 with (fail)
  have hW : Ext w (w.alloc (.cells #[.int .u64 R, .slice A0 n0 c0, .slice A1 n1 c1] 30)) := (Below.refl _ w).alloc (Nat.le_refl _) _
  have hE : (w.alloc (.cells #[.int .u64 R, .slice A0 n0 c0, .slice A1 n1 c1] 30)).heap[w.heap.size]? = some (.cells #[.int .u64 R, .slice A0 n0 c0, .slice A1 n1 c1] 30 (0, 0)) := heap_alloc_new w _
  generalize w.alloc (.cells #[.int .u64 R, .slice A0 n0 c0, .slice A1 n1 c1] 30) = W at *
  have e0 : W.cell? ⟨w.heap.size, 0, none⟩ = some (.int .u64 R) := by simp [World.cell?, hE]
  have e1 : W.cell? ⟨w.heap.size, 1, none⟩ = some (.slice A0 n0 c0) := by simp [World.cell?, hE]
  have e2 : W.cell? ⟨w.heap.size, 2, none⟩ = some (.slice A1 n1 c1) := by simp [World.cell?, hE]
  clear hE
  by_cases hlo : n0 < 1
  · obtain rfl : b = false := by rw [hb0]; simp [rightD]; omega
    clear hb0
    have hlo' : (n0 : Int) < 1 := by omega
    go_wp2
    go_ret
    exact ⟨rfl, hW⟩
  have hlo' : ¬ (n0 : Int) < 1 := by omega
  by_cases hhi : 64 < n0
  · obtain rfl : b = false := by rw [hb0]; simp [rightD]; omega
    clear hb0
    have hhi' : (64 : Int) < (n0 : Int) := by omega
    go_wp2
    go_ret
    exact ⟨rfl, hW⟩
  have hhi' : ¬ (64 : Int) < (n0 : Int) := by omega
  rcases (Decidable.em (n1 = n0)).symm with hne | hne
  · obtain rfl : b = false := by rw [hb0]; simp [rightD, hne]
    clear hb0
    have hne' : ¬ (n1 : Int) = (n0 : Int) := by omega
    go_wp2
    go_ret
    exact ⟨rfl, hW⟩
  subst hne
  go_upto_region 4 with (fail)
  have hx4 : Ext W (W.alloc (.cells #[.slice A0 n1 c0, .slice A1 n1 c1] 27)) := (Below.refl _ W).alloc (Nat.le_refl _) _
  obtain ⟨d0, d1⟩ := two_cells W (.slice A0 n1 c0) (.slice A1 n1 c1) 27
  have hcat := concat_any W.heap.size A0 A1 n1 c0 n1 c1 l0 l1 (W.alloc (.cells #[.slice A0 n1 c0, .slice A1 n1 c1] 27)) d0 d1 ((h0.ext hW).ext hx4) ((h1.ext hW).ext hx4) (by omega) (by omega)
  go_wp2_with fail
  refine hcat.mono ?_
  rintro e w2 ⟨v, rfl, hown, hx2⟩
  obtain ⟨C, cc, rfl, hrow⟩ := hown.form
  have hX2 := (hW.trans hx4).trans hx2
  have hlen := hrow.len
  clear hcat hown d0 d1 hx4 hx2 e0 e1 e2 h0 h1
  have hrd : rightD n1 n1 l0 l1 = (l0 ++ l1).all St.right := by
    unfold rightD
    rw [decide_eq_true (by omega), Bool.true_and]
  rw [hrd] at hb0
  clear hrd
  generalize l0 ++ l1 = L at *
  have hN : n1 + n1 ≤ 128 := by omega
  generalize n1 + n1 = N at *
  go_wp2
  go_loopw [33] (fun i wq => ∃ j : Nat, j ≤ N ∧ i = .int .i64 j ∧ (∀ (k : Nat) (s : St), k < j → L[k]? = some s → s.right = true) ∧ Ext w2 wq) (fun i _ => N - (intOf i).toNat)
  case atStart => exact ⟨0, Nat.zero_le _, rfl, fun k s hk => absurd hk (Nat.not_lt_zero _), Ext.refl _⟩
  case round =>
    obtain ⟨j, hj, rfl, hall, hx⟩ := hrel
    rcases Nat.lt_or_ge j N with hjN | hjN
    · have hs : L[j]? = some (L[j]'(by omega)) := List.getElem?_eq_getElem _
      generalize (L[j]'(by omega)) = s at *
      obtain ⟨a, rfl, ha0, ha1, -⟩ := (hrow.ext hx).at hs
      have hri := fun W => right_any s.D s.q s.cd s.k W
      go_wp2_with fail
      refine (hri _).mono ?_
      rintro e w3 ⟨rfl, hx3⟩
      have hx5 : Ext w2 w3 := (hx.trans ((Below.refl _ _).alloc (Nat.le_refl _) _)).trans hx3
      cases hb : rightB s.k s.q with
      | true =>
        go_wp2
        go_roundw
        case rel =>
          refine ⟨j + 1, by omega, by go_num, fun k x hk hxk => ?_, hx5⟩
          rcases Nat.lt_or_ge k j with h | h
          · exact hall k x h hxk
          · obtain rfl : k = j := by omega
            rw [hs] at hxk
            cases hxk
            exact hb
        case measure => simp [intOf]; omega
      | false =>
        have hno : L.all St.right = false := by
          rw [List.all_eq_false]
          exact ⟨s, List.mem_of_getElem? hs, by simp [St.right, hb]⟩
        obtain rfl : b = false := by rw [hb0, hno]
        clear hb0
        go_wp2
        go_ret
        exact ⟨rfl, hX2.trans hx5⟩
    · obtain rfl : j = N := by omega
      have hyes : L.all St.right = true := by
        rw [List.all_eq_true]
        intro s hs
        obtain ⟨k, hk⟩ := List.getElem?_of_mem hs
        exact hall k s (by have := (List.getElem?_eq_some_iff.1 hk).1; omega) hk
      obtain rfl : b = true := by rw [hb0, hyes]
      clear hb0
      go_wp2
      go_ret
      exact ⟨rfl, hX2.trans hx⟩
end Go.Proofs.Ytennnhfaghdeoaa
