import Derived.Test.YtennnhfaghdeoaaAccDo
import Derived.Test.YtennnhfaghdeoaaCellRef
import Derived.Test.YtennnhfaghdeoaaDiskFew
namespace Go.Proofs.Ytennnhfaghdeoaa
open Go.RowKit

/-! Which worlds are right, and small. -/
def rightW (T C : Int) (q n0 n1 : Nat) (l0 l1 : List St) : Bool := rightM T C q && (rightD n0 n1 l0 l1 && ((n0 : Int) == T))
set_option maxRecDepth 100000 in
set_option maxHeartbeats 1000000 in
theorem accright_any (T C : Int) (A : Option Addr) (q c : Nat) (R : Int) (A0 A1 : Option Addr) (n0 c0 n1 c1 : Nat) (l0 l1 : List St) (w : World) (h0 : RowV w A0 n0 c0 l0) (h1 : RowV w A1 n1 c1 l1) :
    Calls Try.prog 35 #[.agg #[.int .i64 T, .int .i64 C, .slice A q c, .int .u64 R, .slice A0 n0 c0, .slice A1 n1 c1]] w fun e w' => e = .returned (.bool (rightW T C q n0 n1 l0 l1)) ∧ Ext w w' := by
  have hW : Ext w (w.alloc (.cells #[.int .i64 T, .int .i64 C, .slice A q c, .int .u64 R, .slice A0 n0 c0, .slice A1 n1 c1] 32)) := (Below.refl _ w).alloc (Nat.le_refl _) _
  have hE : (w.alloc (.cells #[.int .i64 T, .int .i64 C, .slice A q c, .int .u64 R, .slice A0 n0 c0, .slice A1 n1 c1] 32)).heap[w.heap.size]? = some (.cells #[.int .i64 T, .int .i64 C, .slice A q c, .int .u64 R, .slice A0 n0 c0, .slice A1 n1 c1] 32 (0, 0)) := heap_alloc_new w _
  go_enter Try.func35, Try.ntmps35
  go_upto_region 1 with (fail)
  generalize w.alloc (.cells #[.int .i64 T, .int .i64 C, .slice A q c, .int .u64 R, .slice A0 n0 c0, .slice A1 n1 c1] 32) = W at *
  have hX : ∀ wx, Ext W wx → wx.cell? ⟨w.heap.size, 0, none⟩ = some (.int .i64 T) ∧ wx.cell? ⟨w.heap.size, 1, none⟩ = some (.int .i64 C) ∧ wx.cell? ⟨w.heap.size, 2, none⟩ = some (.slice A q c) ∧ wx.cell? ⟨w.heap.size, 3, none⟩ = some (.int .u64 R) ∧ wx.cell? ⟨w.heap.size, 4, none⟩ = some (.slice A0 n0 c0) ∧ wx.cell? ⟨w.heap.size, 5, none⟩ = some (.slice A1 n1 c1) := fun wx hx =>
    ⟨hx.cell (by simp [World.cell?, hE]), hx.cell (by simp [World.cell?, hE]), hx.cell (by simp [World.cell?, hE]), hx.cell (by simp [World.cell?, hE]), hx.cell (by simp [World.cell?, hE]), hx.cell (by simp [World.cell?, hE])⟩
  obtain ⟨e0, e1, e2, e3, e4, e5⟩ := hX W (Ext.refl _)
  go_wp2_with fail
  refine (cright_any T C A q c _).mono ?_
  rintro e w1 ⟨rfl, hx1⟩
  clear e0 e1 e2 e3 e4 e5
  obtain ⟨e0, e1, e2, e3, e4, e5⟩ := hX w1 hx1
  cases hm : rightM T C q
  · have hrw : rightW T C q n0 n1 l0 l1 = false := by simp [rightW, hm]
    go_wp2
    go_ret
    exact ⟨by rw [hrw]; rfl, hW.trans hx1⟩
  · go_wp2_with fail
    refine (dright_any R A0 A1 n0 c0 n1 c1 l0 l1 _ (h0.ext (hW.trans hx1)) (h1.ext (hW.trans hx1))).mono ?_
    rintro e w2 ⟨rfl, hx2⟩
    clear e0 e1 e2 e3 e4 e5
    obtain ⟨e0, e1, e2, e3, e4, e5⟩ := hX w2 (hx1.trans hx2)
    cases hd : rightD n0 n1 l0 l1
    · have hrw : rightW T C q n0 n1 l0 l1 = false := by simp [rightW, hd]
      go_wp2
      go_ret
      exact ⟨by rw [hrw]; rfl, (hW.trans hx1).trans hx2⟩
    · have hrw : rightW T C q n0 n1 l0 l1 = ((n0 : Int) == T) := by simp [rightW, hd, hm]
      go_wp2
      go_ret
      exact ⟨by rw [hrw]; rfl, (hW.trans hx1).trans hx2⟩
set_option maxRecDepth 100000 in
set_option maxHeartbeats 1000000 in
theorem raright_any (T C : Int) (A : Option Addr) (q c : Nat) (R : Int) (A0 A1 : Option Addr) (n0 c0 n1 c1 : Nat) (l0 l1 : List St) (w : World) (h0 : RowV w A0 n0 c0 l0) (h1 : RowV w A1 n1 c1 l1) :
    Calls Try.prog 34 #[.agg #[.int .i64 T, .int .i64 C, .slice A q c, .int .u64 R, .slice A0 n0 c0, .slice A1 n1 c1]] w fun e w' => e = .returned (.bool (rightW T C q n0 n1 l0 l1)) ∧ Ext w w' := by
  have hW : Ext w (w.alloc (.cells #[.int .i64 T, .int .i64 C, .slice A q c, .int .u64 R, .slice A0 n0 c0, .slice A1 n1 c1] 32)) := (Below.refl _ w).alloc (Nat.le_refl _) _
  have hE : (w.alloc (.cells #[.int .i64 T, .int .i64 C, .slice A q c, .int .u64 R, .slice A0 n0 c0, .slice A1 n1 c1] 32)).heap[w.heap.size]? = some (.cells #[.int .i64 T, .int .i64 C, .slice A q c, .int .u64 R, .slice A0 n0 c0, .slice A1 n1 c1] 32 (0, 0)) := heap_alloc_new w _
  go_enter Try.func34, Try.ntmps34
  go_upto_region 1 with (fail)
  generalize w.alloc (.cells #[.int .i64 T, .int .i64 C, .slice A q c, .int .u64 R, .slice A0 n0 c0, .slice A1 n1 c1] 32) = W at *
  have hX : ∀ wx, Ext W wx → wx.cell? ⟨w.heap.size, 0, none⟩ = some (.int .i64 T) ∧ wx.cell? ⟨w.heap.size, 1, none⟩ = some (.int .i64 C) ∧ wx.cell? ⟨w.heap.size, 2, none⟩ = some (.slice A q c) ∧ wx.cell? ⟨w.heap.size, 3, none⟩ = some (.int .u64 R) ∧ wx.cell? ⟨w.heap.size, 4, none⟩ = some (.slice A0 n0 c0) ∧ wx.cell? ⟨w.heap.size, 5, none⟩ = some (.slice A1 n1 c1) := fun wx hx =>
    ⟨hx.cell (by simp [World.cell?, hE]), hx.cell (by simp [World.cell?, hE]), hx.cell (by simp [World.cell?, hE]), hx.cell (by simp [World.cell?, hE]), hx.cell (by simp [World.cell?, hE]), hx.cell (by simp [World.cell?, hE])⟩
  obtain ⟨e0, e1, e2, e3, e4, e5⟩ := hX W (Ext.refl _)
  go_wp2_with fail
  refine (mright_any T C A q c _).mono ?_
  rintro e w1 ⟨rfl, hx1⟩
  clear e0 e1 e2 e3 e4 e5
  obtain ⟨e0, e1, e2, e3, e4, e5⟩ := hX w1 hx1
  go_wp2_with fail
  refine (rright7_any R A0 A1 n0 c0 n1 c1 l0 l1 _ (h0.ext (hW.trans hx1)) (h1.ext (hW.trans hx1))).mono ?_
  rintro e w2 ⟨rfl, hx2⟩
  clear e0 e1 e2 e3 e4 e5
  obtain ⟨e0, e1, e2, e3, e4, e5⟩ := hX w2 (hx1.trans hx2)
  have hfin := (hW.trans hx1).trans hx2
  cases hm : rightM T C q
  · have hrw : rightW T C q n0 n1 l0 l1 = false := by simp [rightW, hm]
    go_wp2
    go_ret
    exact ⟨by rw [hrw]; rfl, hfin⟩
  · cases hd : rightD n0 n1 l0 l1
    · have hrw : rightW T C q n0 n1 l0 l1 = false := by simp [rightW, hd]
      go_wp2
      go_ret
      exact ⟨by rw [hrw]; rfl, hfin⟩
    · have hrw : rightW T C q n0 n1 l0 l1 = ((n0 : Int) == T) := by simp [rightW, hd, hm]
      go_wp2
      go_ret
      exact ⟨by rw [hrw]; rfl, hfin⟩
/-- what Small promises -/
structure SmallW (T C : Int) (q n0 n1 : Nat) (l0 l1 : List St) (me : Int) : Prop where
  few0 : n0 ≤ 8
  few1 : n1 ≤ 8
  sum : sumQ l0 + sumQ l1 ≤ 4000
  right : rightW T C q n0 n1 l0 l1 = true
  q6 : q ≤ 600
  me : 0 ≤ me ∧ me < T
def SmallE (T C : Int) (q n0 n1 : Nat) (l0 l1 : List St) (me : Int) (e : Ending) : Prop := ∃ b : Bool, e = .returned (.bool b) ∧ (b = true → SmallW T C q n0 n1 l0 l1 me)
set_option maxRecDepth 100000 in
set_option maxHeartbeats 1000000 in
theorem small_any (T C : Int) (A : Option Addr) (q c : Nat) (R : Int) (A0 A1 : Option Addr) (n0 c0 n1 c1 : Nat) (l0 l1 : List St) (me : Int) (w : World) (h0 : RowV w A0 n0 c0 l0) (h1 : RowV w A1 n1 c1 l1) (hq : q ≤ 9223372036854775807) (hz0 : ∀ s ∈ l0, s.q ≤ 140737488351232) (hz1 : ∀ s ∈ l1, s.q ≤ 140737488351232) :
    Calls Try.prog 16 #[.agg #[.int .i64 T, .int .i64 C, .slice A q c, .int .u64 R, .slice A0 n0 c0, .slice A1 n1 c1], .int .i64 me] w fun e w' => SmallE T C q n0 n1 l0 l1 me e ∧ Ext w w' := by
  have hW : Ext w (w.alloc (.cells #[.int .i64 T, .int .i64 C, .slice A q c, .int .u64 R, .slice A0 n0 c0, .slice A1 n1 c1] 32)) := (Below.refl _ w).alloc (Nat.le_refl _) _
  have hE : (w.alloc (.cells #[.int .i64 T, .int .i64 C, .slice A q c, .int .u64 R, .slice A0 n0 c0, .slice A1 n1 c1] 32)).heap[w.heap.size]? = some (.cells #[.int .i64 T, .int .i64 C, .slice A q c, .int .u64 R, .slice A0 n0 c0, .slice A1 n1 c1] 32 (0, 0)) := heap_alloc_new w _
  go_enter Try.func16, Try.ntmps16
  go_upto_region 1 with (fail)
  generalize w.alloc (.cells #[.int .i64 T, .int .i64 C, .slice A q c, .int .u64 R, .slice A0 n0 c0, .slice A1 n1 c1] 32) = W at *
  have hX : ∀ wx, Ext W wx → wx.cell? ⟨w.heap.size, 0, none⟩ = some (.int .i64 T) ∧ wx.cell? ⟨w.heap.size, 1, none⟩ = some (.int .i64 C) ∧ wx.cell? ⟨w.heap.size, 2, none⟩ = some (.slice A q c) ∧ wx.cell? ⟨w.heap.size, 3, none⟩ = some (.int .u64 R) ∧ wx.cell? ⟨w.heap.size, 4, none⟩ = some (.slice A0 n0 c0) ∧ wx.cell? ⟨w.heap.size, 5, none⟩ = some (.slice A1 n1 c1) := fun wx hx =>
    ⟨hx.cell (by simp [World.cell?, hE]), hx.cell (by simp [World.cell?, hE]), hx.cell (by simp [World.cell?, hE]), hx.cell (by simp [World.cell?, hE]), hx.cell (by simp [World.cell?, hE]), hx.cell (by simp [World.cell?, hE])⟩
  obtain ⟨e0, e1, e2, e3, e4, e5⟩ := hX W (Ext.refl _)
  go_wp2_with fail
  refine (few7_sum R A0 A1 n0 c0 n1 c1 l0 l1 _ (h0.ext hW) (h1.ext hW) hz0 hz1).mono ?_
  rintro e w1 ⟨⟨few, rfl, hfew⟩, hx1⟩
  clear e0 e1 e2 e3 e4 e5
  obtain ⟨e0, e1, e2, e3, e4, e5⟩ := hX w1 hx1
  go_wp2_with fail
  refine (raright_any T C A q c R A0 A1 n0 c0 n1 c1 l0 l1 _ (h0.ext (hW.trans hx1)) (h1.ext (hW.trans hx1))).mono ?_
  rintro e w2 ⟨rfl, hx2⟩
  clear e0 e1 e2 e3 e4 e5
  obtain ⟨e0, e1, e2, e3, e4, e5⟩ := hX w2 (hx1.trans hx2)
  have hfin := (hW.trans hx1).trans hx2
  cases few
  · go_wp2
    go_ret
    exact ⟨⟨_, rfl, fun h => by cases h⟩, hfin⟩
  cases hr : rightW T C q n0 n1 l0 l1
  · go_wp2
    go_ret
    exact ⟨⟨_, rfl, fun h => by cases h⟩, hfin⟩
  obtain ⟨f1, f2, f3⟩ := hfew rfl
  clear hfew
  rcases (Decidable.em (q ≤ 600)).symm with hq6 | hq6
  · have hqI : ¬ (q : Int) ≤ 600 := by omega
    go_wp2
    go_ret
    exact ⟨⟨_, rfl, fun h => by cases h⟩, hfin⟩
  have hqI : (q : Int) ≤ 600 := by omega
  rcases (Decidable.em (0 ≤ me)).symm with hm0 | hm0
  · go_wp2
    go_ret
    exact ⟨⟨_, rfl, fun h => by cases h⟩, hfin⟩
  rcases (Decidable.em (me < T)).symm with hm1 | hm1
  · go_wp2
    go_ret
    exact ⟨⟨_, rfl, fun h => absurd (of_decide_eq_true h) (by omega)⟩, hfin⟩
  go_wp2
  go_ret
  exact ⟨⟨_, rfl, fun _ => ⟨f1, f2, f3, hr, hq6, hm0, hm1⟩⟩, hfin⟩
end Go.Proofs.Ytennnhfaghdeoaa
