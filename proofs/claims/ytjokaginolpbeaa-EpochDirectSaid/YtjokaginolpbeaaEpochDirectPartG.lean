import Derived.Test.YtjokaginolpbeaaEpochDirectPartF
import Derived.Test.YtjokaginolpbeaaEpochDirectPartE
import Derived.Test.YtjokaginolpbeaaEpochDirectPartB
import Derived.Test.YtjokaginolpbeaaEpochDirectPartA
import Derived.Lib.Hide
import Derived.LoopTactic
import Derived.Test.YtjokaginolpbeaaEpochDirectPartD
namespace Go.Proofs.Ytjokaginolpbeaa
open Go.RowKit

/-! epoch.Next. -/
theorem log_away (gA gL m : Nat) : DoAway (LogI gA gL m) := by
  intro rs w w' l o ⟨hD, hG⟩ hl ho hx
  refine ⟨?_, hG⟩
  obtain ⟨i, n, c, A, fr, h1, h2, h3, h4, h5, h6⟩ := hD
  have nA : gA ≠ l := fun e => by subst e; rw [h1] at hl; cases hl; cases ho
  have nL : gL ≠ l := fun e => by subst e; rw [h2] at hl; cases hl; cases ho
  refine ⟨i, n, c, A, fr, hx.heap h1 nA, hx.heap h2 nL, h3, h4, h5, fun j r hr => ?_⟩
  obtain ⟨a, ha, hb, hm, hc⟩ := h6 j r hr
  refine ⟨a, ha, hb, hm, hc.extB hx fun e => ?_⟩
  have h7 := hc.1
  unfold World.cell? at h7
  rw [add_block, e, hl] at h7
  cases o <;> simp_all [Obj.isCells]
theorem run_stL_map {α : Type} : ∀ {T : PT α} {rs : List Res}, match T.run (stM Res.n) rs with
    | .ret a s' => T.run stL (rs.map Res.n) = .ret a (s'.map Res.n)
    | .stop x => T.run stL (rs.map Res.n) = .stop x
    | .out => T.run stL (rs.map Res.n) = .out
  | .ret a, rs => rfl
  | .out, rs => rfl
  | .ask x k, [] => rfl
  | .ask x k, r :: rs => by
    simp only [PT.run, stM, stL, List.map_cons]
    exact run_stL_map
def ENextP (r : PR (List Res) OutN) (gA : Nat) (w : World) (e : Ending) (w' : World) : Prop :=
  match r with
  | .stop x => e = needP x.acc.cells ∧ ExtB gA w w'
  | .ret o _ => e = .returned (.agg o.cells) ∧ ExtB gA w w'
  | .out => False
set_option maxRecDepth 100000 in
set_option maxHeartbeats 4000000 in
theorem enext_pin (gA gL m gT gM gP : Nat) (t me u v d : Int) (ht1 : 0 ≤ t) (ht2 : t ≤ 64) (hm1 : 0 ≤ me) (hm2 : me ≤ 64)  (f : Nat) (rs : List Res) (hf : rs.length < f) (w : World) (hD : DoAt m w gA gL rs) (hU : GoodR rs) (hP : w.heap[gP]? = some (.cells #[.int .i64 3, .int .i64 u, .int .i64 v, .int .u64 d] 24 (0, 0))) (hT : w.heap[gT]? = some (.cells #[.int .i64 t] 3 (0, 0))) (hM : w.heap[gM]? = some (.cells #[.int .i64 me] 3 (0, 0))) (nP : gP ≠ gA) (nT : gT ≠ gA) (nM : gM ≠ gA) :
    Calls Try.prog 112 #[doV gA gL, .pointer (some ⟨gP, 0, none⟩), .pointer (some ⟨gM, 0, none⟩), .pointer (some ⟨gT, 0, none⟩)] w (ENextP ((epochT t me 3 u f).run (stM Res.n) rs) gA w) := by
  have hlA : gA < w.heap.size := hD.sizes.1
  have hb1 : ∀ (W : World) (z : Int), (Instr.build 37 #[(2, .int .i64 z)]).run Try.prog W = .ok (.agg #[.int .i64 0, .bool false, .int .i64 z, .int .u64 0, .slice none 0 0]) W := fun _ _ => by kernel_rfl
  have hb4 : ∀ (W : World) (z : Bool), (Instr.build 37 #[(1, .bool z)]).run Try.prog W = .ok (.agg #[.int .i64 0, .bool z, .int .i64 0, .int .u64 0, .slice none 0 0]) W := fun _ _ => by kernel_rfl
  have hb2 : ∀ (W : World), (Instr.build 37 #[]).run Try.prog W = .ok (.agg #[.int .i64 0, .bool false, .int .i64 0, .int .u64 0, .slice none 0 0]) W := fun _ => by kernel_rfl
  have hb3 : ∀ (W : World), (Instr.build 37 #[(0, .int .i64 1)]).run Try.prog W = .ok (.agg #[.int .i64 1, .bool false, .int .i64 0, .int .u64 0, .slice none 0 0]) W := fun _ => by kernel_rfl
  have hfed := (epochT_fed t me 3 u f rs.length hf).run (l := rs) Res.n
  generalize hR : (epochT t me 3 u f).run (stM Res.n) rs = R at hfed
  go_enter Try.func112, Try.ntmps112
  go_upto_region 1 with (fail)
  have hx0 : Ext w (w.alloc (.cells #[.int .i64 0, .bool false, .int .i64 0, .int .u64 0, .slice none 0 0] 37)) := (Below.refl _ w).alloc (Nat.le_refl _) _
  have hO := heap_alloc_new w (.cells #[.int .i64 0, .bool false, .int .i64 0, .int .u64 0, .slice none 0 0] 37)
  generalize w.alloc (.cells #[.int .i64 0, .bool false, .int .i64 0, .int .u64 0, .slice none 0 0] 37) = W0 at *
  generalize hgO : w.heap.size = gO at *
  replace hP := heap_ext hP hx0
  replace hT := heap_ext hT hx0
  replace hM := heap_ext hM hx0
  replace hD := hD.ext hx0
  have hlA0 : gA < W0.heap.size := hD.sizes.1
  have hB := ExtB.of (g := gA) hx0
  have nO : gO ≠ gA := by omega
  have hgO' := Nat.le_of_eq hgO
  clear hx0 hgO hlA nP nT nM
  have p0 : W0.cell? ⟨gP, 0, none⟩ = some (.int .i64 3) := by simp [World.cell?, hP]
  have p1 : W0.cell? ⟨gP, 1, none⟩ = some (.int .i64 u) := by simp [World.cell?, hP]
  have p2 : W0.cell? ⟨gP, 2, none⟩ = some (.int .i64 v) := by simp [World.cell?, hP]
  have p3 : W0.cell? ⟨gP, 3, none⟩ = some (.int .u64 d) := by simp [World.cell?, hP]
  have c0 : W0.cell? ⟨gT, 0, none⟩ = some (.int .i64 t) := by simp [World.cell?, hT]
  have c1 : W0.cell? ⟨gM, 0, none⟩ = some (.int .i64 me) := by simp [World.cell?, hM]
  clear hP hT hM
  have hE0 : epochT t me 3 u f = (pinT me).bind fun r => .ret ⟨0, false, 0, 0⟩ := by simp [epochT]
  rw [hE0, PT.run_bind] at hR
  have hto : (pinT me).run (stM Res.n) rs ≠ .out := fun h => by rw [h] at hR; exact hfed hR.symm
  have hI : LogI gA gL m rs W0 := ⟨hD, hU⟩
  clear hE0
  go_wp2_with fail
  refine (gpin (log_ok gA gL m) me hm1 hm2 rs W0 hI).mono ?_
  intro e w1 h
  cases hq : (pinT me).run (stM Res.n) rs with
  | out => exact absurd hq hto
  | stop x =>
    rw [hq] at h hR
    obtain ⟨rfl, hx⟩ := h
    refine ⟨rfl, ?_⟩
    rw [← hR]
    exact ⟨rfl, hB.trans hx⟩
  | ret r q =>
    rw [hq] at h hR
    obtain ⟨rfl, -, hx⟩ := h
    have HR := Lib.hid hR
    replace hO := hx.heap hO nO
    replace hB := hB.trans hx
    clear hx hq hto p0 p1 p2 p3 c0 c1 hI hR hfed
    have o0 : w1.cell? ⟨gO, 0, none⟩ = some (.int .i64 0) := by simp [World.cell?, hO]
    have of0 : w1.frozen? ⟨gO, 0, none⟩ = false := by simp [World.frozen?, hO]
    have o1 : w1.cell? ⟨gO, 1, none⟩ = some (.bool false) := by simp [World.cell?, hO]
    have of1 : w1.frozen? ⟨gO, 1, none⟩ = false := by simp [World.frozen?, hO]
    have o2 : w1.cell? ⟨gO, 2, none⟩ = some (.int .i64 0) := by simp [World.cell?, hO]
    have of2 : w1.frozen? ⟨gO, 2, none⟩ = false := by simp [World.frozen?, hO]
    have o3 : w1.cell? ⟨gO, 3, none⟩ = some (.int .u64 0) := by simp [World.cell?, hO]
    have of3 : w1.frozen? ⟨gO, 3, none⟩ = false := by simp [World.frozen?, hO]
    have o4 : w1.cell? ⟨gO, 4, none⟩ = some (.slice none 0 0) := by simp [World.cell?, hO]
    have of4 : w1.frozen? ⟨gO, 4, none⟩ = false := by simp [World.frozen?, hO]
    have hO4 : (((((w1.setCell ⟨gO, 0, none⟩ (.int .i64 0)).setCell ⟨gO, 1, none⟩ (.bool false)).setCell ⟨gO, 2, none⟩ (.int .i64 0)).setCell ⟨gO, 3, none⟩ (.int .u64 0)).setCell ⟨gO, 4, none⟩ (.slice none 0 0)).heap[gO]? = some (.cells #[.int .i64 0, .bool false, .int .i64 0, .int .u64 0, .slice none 0 0] 37 (0, 0)) := setAll_all (vs := [.int .i64 0, .bool false, .int .i64 0, .int .u64 0, .slice none 0 0]) hO rfl
    have hB4 : ExtB gA w (((((w1.setCell ⟨gO, 0, none⟩ (.int .i64 0)).setCell ⟨gO, 1, none⟩ (.bool false)).setCell ⟨gO, 2, none⟩ (.int .i64 0)).setCell ⟨gO, 3, none⟩ (.int .u64 0)).setCell ⟨gO, 4, none⟩ (.slice none 0 0)) := ExtB.setAll hB [.int .i64 0, .bool false, .int .i64 0, .int .u64 0, .slice none 0 0] (.inr hgO') 0
    clear hO hB
    go_wp2
    generalize (((((w1.setCell ⟨gO, 0, none⟩ (.int .i64 0)).setCell ⟨gO, 1, none⟩ (.bool false)).setCell ⟨gO, 2, none⟩ (.int .i64 0)).setCell ⟨gO, 3, none⟩ (.int .u64 0)).setCell ⟨gO, 4, none⟩ (.slice none 0 0)) = wo at *
    clear o0 o1 o2 o3 o4 of0 of1 of2 of3 of4
    have o0 : wo.cell? ⟨gO, 0, none⟩ = some (.int .i64 0) := by simp [World.cell?, hO4]
    have o1 : wo.cell? ⟨gO, 1, none⟩ = some (.bool false) := by simp [World.cell?, hO4]
    have o2 : wo.cell? ⟨gO, 2, none⟩ = some (.int .i64 0) := by simp [World.cell?, hO4]
    have o3 : wo.cell? ⟨gO, 3, none⟩ = some (.int .u64 0) := by simp [World.cell?, hO4]
    have o4 : wo.cell? ⟨gO, 4, none⟩ = some (.slice none 0 0) := by simp [World.cell?, hO4]
    refine bodyPost_ret (v := .agg #[.int .i64 0, .bool false, .int .i64 0, .int .u64 0, .slice none 0 0]) (by simp [results, Try.results112, go_sem, o0, o1, o2, o3, o4]) rfl ?_
    rw [← HR.out]
    exact ⟨rfl, hB4⟩
set_option maxRecDepth 100000 in
set_option maxHeartbeats 4000000 in
theorem enext_unpin (gA gL m gT gM gP : Nat) (t me u v d : Int) (ht1 : 0 ≤ t) (ht2 : t ≤ 64) (hm1 : 0 ≤ me) (hm2 : me ≤ 64)  (f : Nat) (rs : List Res) (hf : rs.length < f) (w : World) (hD : DoAt m w gA gL rs) (hU : GoodR rs) (hP : w.heap[gP]? = some (.cells #[.int .i64 4, .int .i64 u, .int .i64 v, .int .u64 d] 24 (0, 0))) (hT : w.heap[gT]? = some (.cells #[.int .i64 t] 3 (0, 0))) (hM : w.heap[gM]? = some (.cells #[.int .i64 me] 3 (0, 0))) (nP : gP ≠ gA) (nT : gT ≠ gA) (nM : gM ≠ gA) :
    Calls Try.prog 112 #[doV gA gL, .pointer (some ⟨gP, 0, none⟩), .pointer (some ⟨gM, 0, none⟩), .pointer (some ⟨gT, 0, none⟩)] w (ENextP ((epochT t me 4 u f).run (stM Res.n) rs) gA w) := by
  have hlA : gA < w.heap.size := hD.sizes.1
  have hb1 : ∀ (W : World) (z : Int), (Instr.build 37 #[(2, .int .i64 z)]).run Try.prog W = .ok (.agg #[.int .i64 0, .bool false, .int .i64 z, .int .u64 0, .slice none 0 0]) W := fun _ _ => by kernel_rfl
  have hb4 : ∀ (W : World) (z : Bool), (Instr.build 37 #[(1, .bool z)]).run Try.prog W = .ok (.agg #[.int .i64 0, .bool z, .int .i64 0, .int .u64 0, .slice none 0 0]) W := fun _ _ => by kernel_rfl
  have hb2 : ∀ (W : World), (Instr.build 37 #[]).run Try.prog W = .ok (.agg #[.int .i64 0, .bool false, .int .i64 0, .int .u64 0, .slice none 0 0]) W := fun _ => by kernel_rfl
  have hb3 : ∀ (W : World), (Instr.build 37 #[(0, .int .i64 1)]).run Try.prog W = .ok (.agg #[.int .i64 1, .bool false, .int .i64 0, .int .u64 0, .slice none 0 0]) W := fun _ => by kernel_rfl
  have hfed := (epochT_fed t me 4 u f rs.length hf).run (l := rs) Res.n
  generalize hR : (epochT t me 4 u f).run (stM Res.n) rs = R at hfed
  go_enter Try.func112, Try.ntmps112
  go_upto_region 1 with (fail)
  have hx0 : Ext w (w.alloc (.cells #[.int .i64 0, .bool false, .int .i64 0, .int .u64 0, .slice none 0 0] 37)) := (Below.refl _ w).alloc (Nat.le_refl _) _
  have hO := heap_alloc_new w (.cells #[.int .i64 0, .bool false, .int .i64 0, .int .u64 0, .slice none 0 0] 37)
  generalize w.alloc (.cells #[.int .i64 0, .bool false, .int .i64 0, .int .u64 0, .slice none 0 0] 37) = W0 at *
  generalize hgO : w.heap.size = gO at *
  replace hP := heap_ext hP hx0
  replace hT := heap_ext hT hx0
  replace hM := heap_ext hM hx0
  replace hD := hD.ext hx0
  have hlA0 : gA < W0.heap.size := hD.sizes.1
  have hB := ExtB.of (g := gA) hx0
  have nO : gO ≠ gA := by omega
  have hgO' := Nat.le_of_eq hgO
  clear hx0 hgO hlA nP nT nM
  have p0 : W0.cell? ⟨gP, 0, none⟩ = some (.int .i64 4) := by simp [World.cell?, hP]
  have p1 : W0.cell? ⟨gP, 1, none⟩ = some (.int .i64 u) := by simp [World.cell?, hP]
  have p2 : W0.cell? ⟨gP, 2, none⟩ = some (.int .i64 v) := by simp [World.cell?, hP]
  have p3 : W0.cell? ⟨gP, 3, none⟩ = some (.int .u64 d) := by simp [World.cell?, hP]
  have c0 : W0.cell? ⟨gT, 0, none⟩ = some (.int .i64 t) := by simp [World.cell?, hT]
  have c1 : W0.cell? ⟨gM, 0, none⟩ = some (.int .i64 me) := by simp [World.cell?, hM]
  clear hP hT hM
  have hE0 : epochT t me 4 u f = (unpinT me).bind fun r => .ret ⟨0, false, 0, 0⟩ := by simp [epochT]
  rw [hE0, PT.run_bind] at hR
  have hto : (unpinT me).run (stM Res.n) rs ≠ .out := fun h => by rw [h] at hR; exact hfed hR.symm
  have hI : LogI gA gL m rs W0 := ⟨hD, hU⟩
  clear hE0
  go_wp2_with fail
  refine (gunpin (log_ok gA gL m) me hm1 hm2 rs W0 hI).mono ?_
  intro e w1 h
  cases hq : (unpinT me).run (stM Res.n) rs with
  | out => exact absurd hq hto
  | stop x =>
    rw [hq] at h hR
    obtain ⟨rfl, hx⟩ := h
    refine ⟨rfl, ?_⟩
    rw [← hR]
    exact ⟨rfl, hB.trans hx⟩
  | ret r q =>
    rw [hq] at h hR
    obtain ⟨rfl, -, hx⟩ := h
    have HR := Lib.hid hR
    replace hO := hx.heap hO nO
    replace hB := hB.trans hx
    clear hx hq hto p0 p1 p2 p3 c0 c1 hI hR hfed
    have o0 : w1.cell? ⟨gO, 0, none⟩ = some (.int .i64 0) := by simp [World.cell?, hO]
    have of0 : w1.frozen? ⟨gO, 0, none⟩ = false := by simp [World.frozen?, hO]
    have o1 : w1.cell? ⟨gO, 1, none⟩ = some (.bool false) := by simp [World.cell?, hO]
    have of1 : w1.frozen? ⟨gO, 1, none⟩ = false := by simp [World.frozen?, hO]
    have o2 : w1.cell? ⟨gO, 2, none⟩ = some (.int .i64 0) := by simp [World.cell?, hO]
    have of2 : w1.frozen? ⟨gO, 2, none⟩ = false := by simp [World.frozen?, hO]
    have o3 : w1.cell? ⟨gO, 3, none⟩ = some (.int .u64 0) := by simp [World.cell?, hO]
    have of3 : w1.frozen? ⟨gO, 3, none⟩ = false := by simp [World.frozen?, hO]
    have o4 : w1.cell? ⟨gO, 4, none⟩ = some (.slice none 0 0) := by simp [World.cell?, hO]
    have of4 : w1.frozen? ⟨gO, 4, none⟩ = false := by simp [World.frozen?, hO]
    have hO4 : (((((w1.setCell ⟨gO, 0, none⟩ (.int .i64 0)).setCell ⟨gO, 1, none⟩ (.bool false)).setCell ⟨gO, 2, none⟩ (.int .i64 0)).setCell ⟨gO, 3, none⟩ (.int .u64 0)).setCell ⟨gO, 4, none⟩ (.slice none 0 0)).heap[gO]? = some (.cells #[.int .i64 0, .bool false, .int .i64 0, .int .u64 0, .slice none 0 0] 37 (0, 0)) := setAll_all (vs := [.int .i64 0, .bool false, .int .i64 0, .int .u64 0, .slice none 0 0]) hO rfl
    have hB4 : ExtB gA w (((((w1.setCell ⟨gO, 0, none⟩ (.int .i64 0)).setCell ⟨gO, 1, none⟩ (.bool false)).setCell ⟨gO, 2, none⟩ (.int .i64 0)).setCell ⟨gO, 3, none⟩ (.int .u64 0)).setCell ⟨gO, 4, none⟩ (.slice none 0 0)) := ExtB.setAll hB [.int .i64 0, .bool false, .int .i64 0, .int .u64 0, .slice none 0 0] (.inr hgO') 0
    clear hO hB
    go_wp2
    generalize (((((w1.setCell ⟨gO, 0, none⟩ (.int .i64 0)).setCell ⟨gO, 1, none⟩ (.bool false)).setCell ⟨gO, 2, none⟩ (.int .i64 0)).setCell ⟨gO, 3, none⟩ (.int .u64 0)).setCell ⟨gO, 4, none⟩ (.slice none 0 0)) = wo at *
    clear o0 o1 o2 o3 o4 of0 of1 of2 of3 of4
    have o0 : wo.cell? ⟨gO, 0, none⟩ = some (.int .i64 0) := by simp [World.cell?, hO4]
    have o1 : wo.cell? ⟨gO, 1, none⟩ = some (.bool false) := by simp [World.cell?, hO4]
    have o2 : wo.cell? ⟨gO, 2, none⟩ = some (.int .i64 0) := by simp [World.cell?, hO4]
    have o3 : wo.cell? ⟨gO, 3, none⟩ = some (.int .u64 0) := by simp [World.cell?, hO4]
    have o4 : wo.cell? ⟨gO, 4, none⟩ = some (.slice none 0 0) := by simp [World.cell?, hO4]
    refine bodyPost_ret (v := .agg #[.int .i64 0, .bool false, .int .i64 0, .int .u64 0, .slice none 0 0]) (by simp [results, Try.results112, go_sem, o0, o1, o2, o3, o4]) rfl ?_
    rw [← HR.out]
    exact ⟨rfl, hB4⟩
set_option maxRecDepth 100000 in
set_option maxHeartbeats 4000000 in
theorem enext_retire (gA gL m gT gM gP : Nat) (t me u v d : Int) (ht1 : 0 ≤ t) (ht2 : t ≤ 64) (hm1 : 0 ≤ me) (hm2 : me ≤ 64) (hu1 : 0 ≤ u) (hu2 : u ≤ 1048576) (f : Nat) (rs : List Res) (hf : rs.length < f) (w : World) (hD : DoAt m w gA gL rs) (hU : GoodR rs) (hP : w.heap[gP]? = some (.cells #[.int .i64 5, .int .i64 u, .int .i64 v, .int .u64 d] 24 (0, 0))) (hT : w.heap[gT]? = some (.cells #[.int .i64 t] 3 (0, 0))) (hM : w.heap[gM]? = some (.cells #[.int .i64 me] 3 (0, 0))) (nP : gP ≠ gA) (nT : gT ≠ gA) (nM : gM ≠ gA) :
    Calls Try.prog 112 #[doV gA gL, .pointer (some ⟨gP, 0, none⟩), .pointer (some ⟨gM, 0, none⟩), .pointer (some ⟨gT, 0, none⟩)] w (ENextP ((epochT t me 5 u f).run (stM Res.n) rs) gA w) := by
  have hlA : gA < w.heap.size := hD.sizes.1
  have hb1 : ∀ (W : World) (z : Int), (Instr.build 37 #[(2, .int .i64 z)]).run Try.prog W = .ok (.agg #[.int .i64 0, .bool false, .int .i64 z, .int .u64 0, .slice none 0 0]) W := fun _ _ => by kernel_rfl
  have hb4 : ∀ (W : World) (z : Bool), (Instr.build 37 #[(1, .bool z)]).run Try.prog W = .ok (.agg #[.int .i64 0, .bool z, .int .i64 0, .int .u64 0, .slice none 0 0]) W := fun _ _ => by kernel_rfl
  have hb2 : ∀ (W : World), (Instr.build 37 #[]).run Try.prog W = .ok (.agg #[.int .i64 0, .bool false, .int .i64 0, .int .u64 0, .slice none 0 0]) W := fun _ => by kernel_rfl
  have hb3 : ∀ (W : World), (Instr.build 37 #[(0, .int .i64 1)]).run Try.prog W = .ok (.agg #[.int .i64 1, .bool false, .int .i64 0, .int .u64 0, .slice none 0 0]) W := fun _ => by kernel_rfl
  have hfed := (epochT_fed t me 5 u f rs.length hf).run (l := rs) Res.n
  generalize hR : (epochT t me 5 u f).run (stM Res.n) rs = R at hfed
  go_enter Try.func112, Try.ntmps112
  go_upto_region 1 with (fail)
  have hx0 : Ext w (w.alloc (.cells #[.int .i64 0, .bool false, .int .i64 0, .int .u64 0, .slice none 0 0] 37)) := (Below.refl _ w).alloc (Nat.le_refl _) _
  have hO := heap_alloc_new w (.cells #[.int .i64 0, .bool false, .int .i64 0, .int .u64 0, .slice none 0 0] 37)
  generalize w.alloc (.cells #[.int .i64 0, .bool false, .int .i64 0, .int .u64 0, .slice none 0 0] 37) = W0 at *
  generalize hgO : w.heap.size = gO at *
  replace hP := heap_ext hP hx0
  replace hT := heap_ext hT hx0
  replace hM := heap_ext hM hx0
  replace hD := hD.ext hx0
  have hlA0 : gA < W0.heap.size := hD.sizes.1
  have hB := ExtB.of (g := gA) hx0
  have nO : gO ≠ gA := by omega
  have hgO' := Nat.le_of_eq hgO
  clear hx0 hgO hlA nP nT nM
  have p0 : W0.cell? ⟨gP, 0, none⟩ = some (.int .i64 5) := by simp [World.cell?, hP]
  have p1 : W0.cell? ⟨gP, 1, none⟩ = some (.int .i64 u) := by simp [World.cell?, hP]
  have p2 : W0.cell? ⟨gP, 2, none⟩ = some (.int .i64 v) := by simp [World.cell?, hP]
  have p3 : W0.cell? ⟨gP, 3, none⟩ = some (.int .u64 d) := by simp [World.cell?, hP]
  have c0 : W0.cell? ⟨gT, 0, none⟩ = some (.int .i64 t) := by simp [World.cell?, hT]
  have c1 : W0.cell? ⟨gM, 0, none⟩ = some (.int .i64 me) := by simp [World.cell?, hM]
  clear hP hT hM
  have hE0 : epochT t me 5 u f = (retireT t u f).bind fun r => .ret ⟨0, false, 0, 0⟩ := by simp [epochT]
  rw [hE0, PT.run_bind] at hR
  have hto : (retireT t u f).run (stM Res.n) rs ≠ .out := fun h => by rw [h] at hR; exact hfed hR.symm
  have hI : LogI gA gL m rs W0 := ⟨hD, hU⟩
  clear hE0
  go_wp2_with fail
  refine (gretire (log_ok gA gL m) t u ht1 ht2 hu1 hu2 f rs W0 hI hto).mono ?_
  intro e w1 h
  cases hq : (retireT t u f).run (stM Res.n) rs with
  | out => exact absurd hq hto
  | stop x =>
    rw [hq] at h hR
    obtain ⟨rfl, hx⟩ := h
    refine ⟨rfl, ?_⟩
    rw [← hR]
    exact ⟨rfl, hB.trans hx⟩
  | ret r q =>
    rw [hq] at h hR
    obtain ⟨rfl, -, hx⟩ := h
    have HR := Lib.hid hR
    replace hO := hx.heap hO nO
    replace hB := hB.trans hx
    clear hx hq hto p0 p1 p2 p3 c0 c1 hI hR hfed
    have o0 : w1.cell? ⟨gO, 0, none⟩ = some (.int .i64 0) := by simp [World.cell?, hO]
    have of0 : w1.frozen? ⟨gO, 0, none⟩ = false := by simp [World.frozen?, hO]
    have o1 : w1.cell? ⟨gO, 1, none⟩ = some (.bool false) := by simp [World.cell?, hO]
    have of1 : w1.frozen? ⟨gO, 1, none⟩ = false := by simp [World.frozen?, hO]
    have o2 : w1.cell? ⟨gO, 2, none⟩ = some (.int .i64 0) := by simp [World.cell?, hO]
    have of2 : w1.frozen? ⟨gO, 2, none⟩ = false := by simp [World.frozen?, hO]
    have o3 : w1.cell? ⟨gO, 3, none⟩ = some (.int .u64 0) := by simp [World.cell?, hO]
    have of3 : w1.frozen? ⟨gO, 3, none⟩ = false := by simp [World.frozen?, hO]
    have o4 : w1.cell? ⟨gO, 4, none⟩ = some (.slice none 0 0) := by simp [World.cell?, hO]
    have of4 : w1.frozen? ⟨gO, 4, none⟩ = false := by simp [World.frozen?, hO]
    have hO4 : (((((w1.setCell ⟨gO, 0, none⟩ (.int .i64 0)).setCell ⟨gO, 1, none⟩ (.bool false)).setCell ⟨gO, 2, none⟩ (.int .i64 0)).setCell ⟨gO, 3, none⟩ (.int .u64 0)).setCell ⟨gO, 4, none⟩ (.slice none 0 0)).heap[gO]? = some (.cells #[.int .i64 0, .bool false, .int .i64 0, .int .u64 0, .slice none 0 0] 37 (0, 0)) := setAll_all (vs := [.int .i64 0, .bool false, .int .i64 0, .int .u64 0, .slice none 0 0]) hO rfl
    have hB4 : ExtB gA w (((((w1.setCell ⟨gO, 0, none⟩ (.int .i64 0)).setCell ⟨gO, 1, none⟩ (.bool false)).setCell ⟨gO, 2, none⟩ (.int .i64 0)).setCell ⟨gO, 3, none⟩ (.int .u64 0)).setCell ⟨gO, 4, none⟩ (.slice none 0 0)) := ExtB.setAll hB [.int .i64 0, .bool false, .int .i64 0, .int .u64 0, .slice none 0 0] (.inr hgO') 0
    clear hO hB
    go_wp2
    generalize (((((w1.setCell ⟨gO, 0, none⟩ (.int .i64 0)).setCell ⟨gO, 1, none⟩ (.bool false)).setCell ⟨gO, 2, none⟩ (.int .i64 0)).setCell ⟨gO, 3, none⟩ (.int .u64 0)).setCell ⟨gO, 4, none⟩ (.slice none 0 0)) = wo at *
    clear o0 o1 o2 o3 o4 of0 of1 of2 of3 of4
    have o0 : wo.cell? ⟨gO, 0, none⟩ = some (.int .i64 0) := by simp [World.cell?, hO4]
    have o1 : wo.cell? ⟨gO, 1, none⟩ = some (.bool false) := by simp [World.cell?, hO4]
    have o2 : wo.cell? ⟨gO, 2, none⟩ = some (.int .i64 0) := by simp [World.cell?, hO4]
    have o3 : wo.cell? ⟨gO, 3, none⟩ = some (.int .u64 0) := by simp [World.cell?, hO4]
    have o4 : wo.cell? ⟨gO, 4, none⟩ = some (.slice none 0 0) := by simp [World.cell?, hO4]
    refine bodyPost_ret (v := .agg #[.int .i64 0, .bool false, .int .i64 0, .int .u64 0, .slice none 0 0]) (by simp [results, Try.results112, go_sem, o0, o1, o2, o3, o4]) rfl ?_
    rw [← HR.out]
    exact ⟨rfl, hB4⟩
set_option maxRecDepth 100000 in
set_option maxHeartbeats 4000000 in
theorem enext_adv (gA gL m gT gM gP : Nat) (t me u v d : Int) (ht1 : 0 ≤ t) (ht2 : t ≤ 64) (hm1 : 0 ≤ me) (hm2 : me ≤ 64)  (f : Nat) (rs : List Res) (hf : rs.length < f) (w : World) (hD : DoAt m w gA gL rs) (hU : GoodR rs) (hP : w.heap[gP]? = some (.cells #[.int .i64 19, .int .i64 u, .int .i64 v, .int .u64 d] 24 (0, 0))) (hT : w.heap[gT]? = some (.cells #[.int .i64 t] 3 (0, 0))) (hM : w.heap[gM]? = some (.cells #[.int .i64 me] 3 (0, 0))) (nP : gP ≠ gA) (nT : gT ≠ gA) (nM : gM ≠ gA) :
    Calls Try.prog 112 #[doV gA gL, .pointer (some ⟨gP, 0, none⟩), .pointer (some ⟨gM, 0, none⟩), .pointer (some ⟨gT, 0, none⟩)] w (ENextP ((epochT t me 19 u f).run (stM Res.n) rs) gA w) := by
  have hlA : gA < w.heap.size := hD.sizes.1
  have hb1 : ∀ (W : World) (z : Int), (Instr.build 37 #[(2, .int .i64 z)]).run Try.prog W = .ok (.agg #[.int .i64 0, .bool false, .int .i64 z, .int .u64 0, .slice none 0 0]) W := fun _ _ => by kernel_rfl
  have hb4 : ∀ (W : World) (z : Bool), (Instr.build 37 #[(1, .bool z)]).run Try.prog W = .ok (.agg #[.int .i64 0, .bool z, .int .i64 0, .int .u64 0, .slice none 0 0]) W := fun _ _ => by kernel_rfl
  have hb2 : ∀ (W : World), (Instr.build 37 #[]).run Try.prog W = .ok (.agg #[.int .i64 0, .bool false, .int .i64 0, .int .u64 0, .slice none 0 0]) W := fun _ => by kernel_rfl
  have hb3 : ∀ (W : World), (Instr.build 37 #[(0, .int .i64 1)]).run Try.prog W = .ok (.agg #[.int .i64 1, .bool false, .int .i64 0, .int .u64 0, .slice none 0 0]) W := fun _ => by kernel_rfl
  have hfed := (epochT_fed t me 19 u f rs.length hf).run (l := rs) Res.n
  generalize hR : (epochT t me 19 u f).run (stM Res.n) rs = R at hfed
  go_enter Try.func112, Try.ntmps112
  go_upto_region 1 with (fail)
  have hx0 : Ext w (w.alloc (.cells #[.int .i64 0, .bool false, .int .i64 0, .int .u64 0, .slice none 0 0] 37)) := (Below.refl _ w).alloc (Nat.le_refl _) _
  have hO := heap_alloc_new w (.cells #[.int .i64 0, .bool false, .int .i64 0, .int .u64 0, .slice none 0 0] 37)
  generalize w.alloc (.cells #[.int .i64 0, .bool false, .int .i64 0, .int .u64 0, .slice none 0 0] 37) = W0 at *
  generalize hgO : w.heap.size = gO at *
  replace hP := heap_ext hP hx0
  replace hT := heap_ext hT hx0
  replace hM := heap_ext hM hx0
  replace hD := hD.ext hx0
  have hlA0 : gA < W0.heap.size := hD.sizes.1
  have hB := ExtB.of (g := gA) hx0
  have nO : gO ≠ gA := by omega
  have hgO' := Nat.le_of_eq hgO
  clear hx0 hgO hlA nP nT nM
  have p0 : W0.cell? ⟨gP, 0, none⟩ = some (.int .i64 19) := by simp [World.cell?, hP]
  have p1 : W0.cell? ⟨gP, 1, none⟩ = some (.int .i64 u) := by simp [World.cell?, hP]
  have p2 : W0.cell? ⟨gP, 2, none⟩ = some (.int .i64 v) := by simp [World.cell?, hP]
  have p3 : W0.cell? ⟨gP, 3, none⟩ = some (.int .u64 d) := by simp [World.cell?, hP]
  have c0 : W0.cell? ⟨gT, 0, none⟩ = some (.int .i64 t) := by simp [World.cell?, hT]
  have c1 : W0.cell? ⟨gM, 0, none⟩ = some (.int .i64 me) := by simp [World.cell?, hM]
  clear hP hT hM
  have hE0 : epochT t me 19 u f = (advT t f).bind fun r => .ret ⟨0, r, 0, 0⟩ := by simp [epochT]
  rw [hE0, PT.run_bind] at hR
  have hto : (advT t f).run (stM Res.n) rs ≠ .out := fun h => by rw [h] at hR; exact hfed hR.symm
  have hI : LogI gA gL m rs W0 := ⟨hD, hU⟩
  clear hE0
  go_wp2_with fail
  refine (gadvance (log_ok gA gL m) (log_away gA gL m) t ht1 ht2 f rs W0 hI hlA0 hto).mono ?_
  intro e w1 h
  cases hq : (advT t f).run (stM Res.n) rs with
  | out => exact absurd hq hto
  | stop x =>
    rw [hq] at h hR
    obtain ⟨rfl, hx⟩ := h
    refine ⟨rfl, ?_⟩
    rw [← hR]
    exact ⟨rfl, hB.trans hx⟩
  | ret r q =>
    rw [hq] at h hR
    obtain ⟨rfl, -, hx⟩ := h
    have HR := Lib.hid hR
    replace hO := hx.heap hO nO
    replace hB := hB.trans hx
    clear hx hq hto p0 p1 p2 p3 c0 c1 hI hR hfed
    have o0 : w1.cell? ⟨gO, 0, none⟩ = some (.int .i64 0) := by simp [World.cell?, hO]
    have of0 : w1.frozen? ⟨gO, 0, none⟩ = false := by simp [World.frozen?, hO]
    have o1 : w1.cell? ⟨gO, 1, none⟩ = some (.bool false) := by simp [World.cell?, hO]
    have of1 : w1.frozen? ⟨gO, 1, none⟩ = false := by simp [World.frozen?, hO]
    have o2 : w1.cell? ⟨gO, 2, none⟩ = some (.int .i64 0) := by simp [World.cell?, hO]
    have of2 : w1.frozen? ⟨gO, 2, none⟩ = false := by simp [World.frozen?, hO]
    have o3 : w1.cell? ⟨gO, 3, none⟩ = some (.int .u64 0) := by simp [World.cell?, hO]
    have of3 : w1.frozen? ⟨gO, 3, none⟩ = false := by simp [World.frozen?, hO]
    have o4 : w1.cell? ⟨gO, 4, none⟩ = some (.slice none 0 0) := by simp [World.cell?, hO]
    have of4 : w1.frozen? ⟨gO, 4, none⟩ = false := by simp [World.frozen?, hO]
    have hO4 : (((((w1.setCell ⟨gO, 0, none⟩ (.int .i64 0)).setCell ⟨gO, 1, none⟩ (.bool r)).setCell ⟨gO, 2, none⟩ (.int .i64 0)).setCell ⟨gO, 3, none⟩ (.int .u64 0)).setCell ⟨gO, 4, none⟩ (.slice none 0 0)).heap[gO]? = some (.cells #[.int .i64 0, .bool r, .int .i64 0, .int .u64 0, .slice none 0 0] 37 (0, 0)) := setAll_all (vs := [.int .i64 0, .bool r, .int .i64 0, .int .u64 0, .slice none 0 0]) hO rfl
    have hB4 : ExtB gA w (((((w1.setCell ⟨gO, 0, none⟩ (.int .i64 0)).setCell ⟨gO, 1, none⟩ (.bool r)).setCell ⟨gO, 2, none⟩ (.int .i64 0)).setCell ⟨gO, 3, none⟩ (.int .u64 0)).setCell ⟨gO, 4, none⟩ (.slice none 0 0)) := ExtB.setAll hB [.int .i64 0, .bool r, .int .i64 0, .int .u64 0, .slice none 0 0] (.inr hgO') 0
    clear hO hB
    go_wp2
    generalize (((((w1.setCell ⟨gO, 0, none⟩ (.int .i64 0)).setCell ⟨gO, 1, none⟩ (.bool r)).setCell ⟨gO, 2, none⟩ (.int .i64 0)).setCell ⟨gO, 3, none⟩ (.int .u64 0)).setCell ⟨gO, 4, none⟩ (.slice none 0 0)) = wo at *
    clear o0 o1 o2 o3 o4 of0 of1 of2 of3 of4
    have o0 : wo.cell? ⟨gO, 0, none⟩ = some (.int .i64 0) := by simp [World.cell?, hO4]
    have o1 : wo.cell? ⟨gO, 1, none⟩ = some (.bool r) := by simp [World.cell?, hO4]
    have o2 : wo.cell? ⟨gO, 2, none⟩ = some (.int .i64 0) := by simp [World.cell?, hO4]
    have o3 : wo.cell? ⟨gO, 3, none⟩ = some (.int .u64 0) := by simp [World.cell?, hO4]
    have o4 : wo.cell? ⟨gO, 4, none⟩ = some (.slice none 0 0) := by simp [World.cell?, hO4]
    refine bodyPost_ret (v := .agg #[.int .i64 0, .bool r, .int .i64 0, .int .u64 0, .slice none 0 0]) (by simp [results, Try.results112, go_sem, o0, o1, o2, o3, o4]) rfl ?_
    rw [← HR.out]
    exact ⟨rfl, hB4⟩
set_option maxRecDepth 100000 in
set_option maxHeartbeats 4000000 in
theorem enext_alloc (gA gL m gT gM gP : Nat) (t me u v d : Int) (ht1 : 0 ≤ t) (ht2 : t ≤ 64) (hm1 : 0 ≤ me) (hm2 : me ≤ 64)  (f : Nat) (rs : List Res) (hf : rs.length < f) (w : World) (hD : DoAt m w gA gL rs) (hU : GoodR rs) (hP : w.heap[gP]? = some (.cells #[.int .i64 6, .int .i64 u, .int .i64 v, .int .u64 d] 24 (0, 0))) (hT : w.heap[gT]? = some (.cells #[.int .i64 t] 3 (0, 0))) (hM : w.heap[gM]? = some (.cells #[.int .i64 me] 3 (0, 0))) (nP : gP ≠ gA) (nT : gT ≠ gA) (nM : gM ≠ gA) :
    Calls Try.prog 112 #[doV gA gL, .pointer (some ⟨gP, 0, none⟩), .pointer (some ⟨gM, 0, none⟩), .pointer (some ⟨gT, 0, none⟩)] w (ENextP ((epochT t me 6 u f).run (stM Res.n) rs) gA w) := by
  have hlA : gA < w.heap.size := hD.sizes.1
  have hb1 : ∀ (W : World) (z : Int), (Instr.build 37 #[(2, .int .i64 z)]).run Try.prog W = .ok (.agg #[.int .i64 0, .bool false, .int .i64 z, .int .u64 0, .slice none 0 0]) W := fun _ _ => by kernel_rfl
  have hb4 : ∀ (W : World) (z : Bool), (Instr.build 37 #[(1, .bool z)]).run Try.prog W = .ok (.agg #[.int .i64 0, .bool z, .int .i64 0, .int .u64 0, .slice none 0 0]) W := fun _ _ => by kernel_rfl
  have hb2 : ∀ (W : World), (Instr.build 37 #[]).run Try.prog W = .ok (.agg #[.int .i64 0, .bool false, .int .i64 0, .int .u64 0, .slice none 0 0]) W := fun _ => by kernel_rfl
  have hb3 : ∀ (W : World), (Instr.build 37 #[(0, .int .i64 1)]).run Try.prog W = .ok (.agg #[.int .i64 1, .bool false, .int .i64 0, .int .u64 0, .slice none 0 0]) W := fun _ => by kernel_rfl
  have hfed := (epochT_fed t me 6 u f rs.length hf).run (l := rs) Res.n
  generalize hR : (epochT t me 6 u f).run (stM Res.n) rs = R at hfed
  go_enter Try.func112, Try.ntmps112
  go_upto_region 1 with (fail)
  have hx0 : Ext w (w.alloc (.cells #[.int .i64 0, .bool false, .int .i64 0, .int .u64 0, .slice none 0 0] 37)) := (Below.refl _ w).alloc (Nat.le_refl _) _
  have hO := heap_alloc_new w (.cells #[.int .i64 0, .bool false, .int .i64 0, .int .u64 0, .slice none 0 0] 37)
  generalize w.alloc (.cells #[.int .i64 0, .bool false, .int .i64 0, .int .u64 0, .slice none 0 0] 37) = W0 at *
  generalize hgO : w.heap.size = gO at *
  replace hP := heap_ext hP hx0
  replace hT := heap_ext hT hx0
  replace hM := heap_ext hM hx0
  replace hD := hD.ext hx0
  have hlA0 : gA < W0.heap.size := hD.sizes.1
  have hB := ExtB.of (g := gA) hx0
  have nO : gO ≠ gA := by omega
  have hgO' := Nat.le_of_eq hgO
  clear hx0 hgO hlA nP nT nM
  have p0 : W0.cell? ⟨gP, 0, none⟩ = some (.int .i64 6) := by simp [World.cell?, hP]
  have p1 : W0.cell? ⟨gP, 1, none⟩ = some (.int .i64 u) := by simp [World.cell?, hP]
  have p2 : W0.cell? ⟨gP, 2, none⟩ = some (.int .i64 v) := by simp [World.cell?, hP]
  have p3 : W0.cell? ⟨gP, 3, none⟩ = some (.int .u64 d) := by simp [World.cell?, hP]
  have c0 : W0.cell? ⟨gT, 0, none⟩ = some (.int .i64 t) := by simp [World.cell?, hT]
  have c1 : W0.cell? ⟨gM, 0, none⟩ = some (.int .i64 me) := by simp [World.cell?, hM]
  clear hP hT hM
  have hE0 : epochT t me 6 u f = (allocT t me f).bind fun r => .ret ⟨0, false, r, 0⟩ := by simp [epochT]
  rw [hE0, PT.run_bind] at hR
  have hto : (allocT t me f).run (stM Res.n) rs ≠ .out := fun h => by rw [h] at hR; exact hfed hR.symm
  have hI : LogI gA gL m rs W0 := ⟨hD, hU⟩
  clear hE0
  go_wp2_with fail
  refine (galloc (log_ok gA gL m) (log_away gA gL m) t me ht1 ht2 hm1 hm2 f rs W0 hI hlA0 hto).mono ?_
  intro e w1 h
  cases hq : (allocT t me f).run (stM Res.n) rs with
  | out => exact absurd hq hto
  | stop x =>
    rw [hq] at h hR
    obtain ⟨rfl, hx⟩ := h
    refine ⟨rfl, ?_⟩
    rw [← hR]
    exact ⟨rfl, hB.trans hx⟩
  | ret r q =>
    rw [hq] at h hR
    obtain ⟨rfl, -, hx⟩ := h
    have HR := Lib.hid hR
    replace hO := hx.heap hO nO
    replace hB := hB.trans hx
    clear hx hq hto p0 p1 p2 p3 c0 c1 hI hR hfed
    have o0 : w1.cell? ⟨gO, 0, none⟩ = some (.int .i64 0) := by simp [World.cell?, hO]
    have of0 : w1.frozen? ⟨gO, 0, none⟩ = false := by simp [World.frozen?, hO]
    have o1 : w1.cell? ⟨gO, 1, none⟩ = some (.bool false) := by simp [World.cell?, hO]
    have of1 : w1.frozen? ⟨gO, 1, none⟩ = false := by simp [World.frozen?, hO]
    have o2 : w1.cell? ⟨gO, 2, none⟩ = some (.int .i64 0) := by simp [World.cell?, hO]
    have of2 : w1.frozen? ⟨gO, 2, none⟩ = false := by simp [World.frozen?, hO]
    have o3 : w1.cell? ⟨gO, 3, none⟩ = some (.int .u64 0) := by simp [World.cell?, hO]
    have of3 : w1.frozen? ⟨gO, 3, none⟩ = false := by simp [World.frozen?, hO]
    have o4 : w1.cell? ⟨gO, 4, none⟩ = some (.slice none 0 0) := by simp [World.cell?, hO]
    have of4 : w1.frozen? ⟨gO, 4, none⟩ = false := by simp [World.frozen?, hO]
    have hO4 : (((((w1.setCell ⟨gO, 0, none⟩ (.int .i64 0)).setCell ⟨gO, 1, none⟩ (.bool false)).setCell ⟨gO, 2, none⟩ (.int .i64 r)).setCell ⟨gO, 3, none⟩ (.int .u64 0)).setCell ⟨gO, 4, none⟩ (.slice none 0 0)).heap[gO]? = some (.cells #[.int .i64 0, .bool false, .int .i64 r, .int .u64 0, .slice none 0 0] 37 (0, 0)) := setAll_all (vs := [.int .i64 0, .bool false, .int .i64 r, .int .u64 0, .slice none 0 0]) hO rfl
    have hB4 : ExtB gA w (((((w1.setCell ⟨gO, 0, none⟩ (.int .i64 0)).setCell ⟨gO, 1, none⟩ (.bool false)).setCell ⟨gO, 2, none⟩ (.int .i64 r)).setCell ⟨gO, 3, none⟩ (.int .u64 0)).setCell ⟨gO, 4, none⟩ (.slice none 0 0)) := ExtB.setAll hB [.int .i64 0, .bool false, .int .i64 r, .int .u64 0, .slice none 0 0] (.inr hgO') 0
    clear hO hB
    go_wp2
    generalize (((((w1.setCell ⟨gO, 0, none⟩ (.int .i64 0)).setCell ⟨gO, 1, none⟩ (.bool false)).setCell ⟨gO, 2, none⟩ (.int .i64 r)).setCell ⟨gO, 3, none⟩ (.int .u64 0)).setCell ⟨gO, 4, none⟩ (.slice none 0 0)) = wo at *
    clear o0 o1 o2 o3 o4 of0 of1 of2 of3 of4
    have o0 : wo.cell? ⟨gO, 0, none⟩ = some (.int .i64 0) := by simp [World.cell?, hO4]
    have o1 : wo.cell? ⟨gO, 1, none⟩ = some (.bool false) := by simp [World.cell?, hO4]
    have o2 : wo.cell? ⟨gO, 2, none⟩ = some (.int .i64 r) := by simp [World.cell?, hO4]
    have o3 : wo.cell? ⟨gO, 3, none⟩ = some (.int .u64 0) := by simp [World.cell?, hO4]
    have o4 : wo.cell? ⟨gO, 4, none⟩ = some (.slice none 0 0) := by simp [World.cell?, hO4]
    refine bodyPost_ret (v := .agg #[.int .i64 0, .bool false, .int .i64 r, .int .u64 0, .slice none 0 0]) (by simp [results, Try.results112, go_sem, o0, o1, o2, o3, o4]) rfl ?_
    rw [← HR.out]
    exact ⟨rfl, hB4⟩
set_option maxRecDepth 100000 in
set_option maxHeartbeats 4000000 in
theorem enext_no (gA gL m gT gM gP : Nat) (t me k u v d : Int) (ht1 : 0 ≤ t) (ht2 : t ≤ 64) (hm1 : 0 ≤ me) (hm2 : me ≤ 64) (k3 : ¬ k = 3) (k4 : ¬ k = 4) (k5 : ¬ k = 5) (k19 : ¬ k = 19) (k6 : ¬ k = 6) (f : Nat) (rs : List Res) (hf : rs.length < f) (w : World) (hD : DoAt m w gA gL rs) (hU : GoodR rs) (hP : w.heap[gP]? = some (.cells #[.int .i64 k, .int .i64 u, .int .i64 v, .int .u64 d] 24 (0, 0))) (hT : w.heap[gT]? = some (.cells #[.int .i64 t] 3 (0, 0))) (hM : w.heap[gM]? = some (.cells #[.int .i64 me] 3 (0, 0))) (nP : gP ≠ gA) (nT : gT ≠ gA) (nM : gM ≠ gA) :
    Calls Try.prog 112 #[doV gA gL, .pointer (some ⟨gP, 0, none⟩), .pointer (some ⟨gM, 0, none⟩), .pointer (some ⟨gT, 0, none⟩)] w (ENextP ((epochT t me k u f).run (stM Res.n) rs) gA w) := by
  have hlA : gA < w.heap.size := hD.sizes.1
  have hb1 : ∀ (W : World) (z : Int), (Instr.build 37 #[(2, .int .i64 z)]).run Try.prog W = .ok (.agg #[.int .i64 0, .bool false, .int .i64 z, .int .u64 0, .slice none 0 0]) W := fun _ _ => by kernel_rfl
  have hb4 : ∀ (W : World) (z : Bool), (Instr.build 37 #[(1, .bool z)]).run Try.prog W = .ok (.agg #[.int .i64 0, .bool z, .int .i64 0, .int .u64 0, .slice none 0 0]) W := fun _ _ => by kernel_rfl
  have hb2 : ∀ (W : World), (Instr.build 37 #[]).run Try.prog W = .ok (.agg #[.int .i64 0, .bool false, .int .i64 0, .int .u64 0, .slice none 0 0]) W := fun _ => by kernel_rfl
  have hb3 : ∀ (W : World), (Instr.build 37 #[(0, .int .i64 1)]).run Try.prog W = .ok (.agg #[.int .i64 1, .bool false, .int .i64 0, .int .u64 0, .slice none 0 0]) W := fun _ => by kernel_rfl
  have hfed := (epochT_fed t me k u f rs.length hf).run (l := rs) Res.n
  generalize hR : (epochT t me k u f).run (stM Res.n) rs = R at hfed
  go_enter Try.func112, Try.ntmps112
  go_upto_region 1 with (fail)
  have hx0 : Ext w (w.alloc (.cells #[.int .i64 0, .bool false, .int .i64 0, .int .u64 0, .slice none 0 0] 37)) := (Below.refl _ w).alloc (Nat.le_refl _) _
  have hO := heap_alloc_new w (.cells #[.int .i64 0, .bool false, .int .i64 0, .int .u64 0, .slice none 0 0] 37)
  generalize w.alloc (.cells #[.int .i64 0, .bool false, .int .i64 0, .int .u64 0, .slice none 0 0] 37) = W0 at *
  generalize hgO : w.heap.size = gO at *
  replace hP := heap_ext hP hx0
  replace hT := heap_ext hT hx0
  replace hM := heap_ext hM hx0
  replace hD := hD.ext hx0
  have hlA0 : gA < W0.heap.size := hD.sizes.1
  have hB := ExtB.of (g := gA) hx0
  have nO : gO ≠ gA := by omega
  have hgO' := Nat.le_of_eq hgO
  clear hx0 hgO hlA nP nT nM
  have p0 : W0.cell? ⟨gP, 0, none⟩ = some (.int .i64 k) := by simp [World.cell?, hP]
  have p1 : W0.cell? ⟨gP, 1, none⟩ = some (.int .i64 u) := by simp [World.cell?, hP]
  have p2 : W0.cell? ⟨gP, 2, none⟩ = some (.int .i64 v) := by simp [World.cell?, hP]
  have p3 : W0.cell? ⟨gP, 3, none⟩ = some (.int .u64 d) := by simp [World.cell?, hP]
  have c0 : W0.cell? ⟨gT, 0, none⟩ = some (.int .i64 t) := by simp [World.cell?, hT]
  have c1 : W0.cell? ⟨gM, 0, none⟩ = some (.int .i64 me) := by simp [World.cell?, hM]
  clear hP hT hM
  have hE0 : epochT t me k u f = .ret ⟨1, false, 0, 0⟩ := by simp [epochT, k3, k4, k5, k19, k6]
  rw [hE0] at hR
  simp only [PT.run] at hR
  have HR := Lib.hid hR
  clear hR hE0 hfed
  have kb3 : (k == 3) = false := by simp [k3]
  have kb4 : (k == 4) = false := by simp [k4]
  have kb5 : (k == 5) = false := by simp [k5]
  have kb19 : (k == 19) = false := by simp [k19]
  have kb6 : (k == 6) = false := by simp [k6]
  have o0 : W0.cell? ⟨gO, 0, none⟩ = some (.int .i64 0) := by simp [World.cell?, hO]
  have of0 : W0.frozen? ⟨gO, 0, none⟩ = false := by simp [World.frozen?, hO]
  have o1 : W0.cell? ⟨gO, 1, none⟩ = some (.bool false) := by simp [World.cell?, hO]
  have of1 : W0.frozen? ⟨gO, 1, none⟩ = false := by simp [World.frozen?, hO]
  have o2 : W0.cell? ⟨gO, 2, none⟩ = some (.int .i64 0) := by simp [World.cell?, hO]
  have of2 : W0.frozen? ⟨gO, 2, none⟩ = false := by simp [World.frozen?, hO]
  have o3 : W0.cell? ⟨gO, 3, none⟩ = some (.int .u64 0) := by simp [World.cell?, hO]
  have of3 : W0.frozen? ⟨gO, 3, none⟩ = false := by simp [World.frozen?, hO]
  have o4 : W0.cell? ⟨gO, 4, none⟩ = some (.slice none 0 0) := by simp [World.cell?, hO]
  have of4 : W0.frozen? ⟨gO, 4, none⟩ = false := by simp [World.frozen?, hO]
  have hO4 : (((((W0.setCell ⟨gO, 0, none⟩ (.int .i64 1)).setCell ⟨gO, 1, none⟩ (.bool false)).setCell ⟨gO, 2, none⟩ (.int .i64 0)).setCell ⟨gO, 3, none⟩ (.int .u64 0)).setCell ⟨gO, 4, none⟩ (.slice none 0 0)).heap[gO]? = some (.cells #[.int .i64 1, .bool false, .int .i64 0, .int .u64 0, .slice none 0 0] 37 (0, 0)) := setAll_all (vs := [.int .i64 1, .bool false, .int .i64 0, .int .u64 0, .slice none 0 0]) hO rfl
  have hB4 : ExtB gA w (((((W0.setCell ⟨gO, 0, none⟩ (.int .i64 1)).setCell ⟨gO, 1, none⟩ (.bool false)).setCell ⟨gO, 2, none⟩ (.int .i64 0)).setCell ⟨gO, 3, none⟩ (.int .u64 0)).setCell ⟨gO, 4, none⟩ (.slice none 0 0)) := ExtB.setAll hB [.int .i64 1, .bool false, .int .i64 0, .int .u64 0, .slice none 0 0] (.inr hgO') 0
  clear hO hB
  go_wp2
  generalize (((((W0.setCell ⟨gO, 0, none⟩ (.int .i64 1)).setCell ⟨gO, 1, none⟩ (.bool false)).setCell ⟨gO, 2, none⟩ (.int .i64 0)).setCell ⟨gO, 3, none⟩ (.int .u64 0)).setCell ⟨gO, 4, none⟩ (.slice none 0 0)) = wo at *
  clear o0 o1 o2 o3 o4 of0 of1 of2 of3 of4
  have o0 : wo.cell? ⟨gO, 0, none⟩ = some (.int .i64 1) := by simp [World.cell?, hO4]
  have o1 : wo.cell? ⟨gO, 1, none⟩ = some (.bool false) := by simp [World.cell?, hO4]
  have o2 : wo.cell? ⟨gO, 2, none⟩ = some (.int .i64 0) := by simp [World.cell?, hO4]
  have o3 : wo.cell? ⟨gO, 3, none⟩ = some (.int .u64 0) := by simp [World.cell?, hO4]
  have o4 : wo.cell? ⟨gO, 4, none⟩ = some (.slice none 0 0) := by simp [World.cell?, hO4]
  refine bodyPost_ret (v := .agg #[.int .i64 1, .bool false, .int .i64 0, .int .u64 0, .slice none 0 0]) (by simp [results, Try.results112, go_sem, o0, o1, o2, o3, o4]) rfl ?_
  rw [← HR.out]
  exact ⟨rfl, hB4⟩
theorem enext_prog (gA gL m gT gM gP : Nat) (t me k u v d : Int) (ht1 : 0 ≤ t) (ht2 : t ≤ 64) (hm1 : 0 ≤ me) (hm2 : me ≤ 64) (hu : k = 5 → 0 ≤ u ∧ u ≤ 1048576) (f : Nat) (rs : List Res) (hf : rs.length < f) (w : World) (hD : DoAt m w gA gL rs) (hU : GoodR rs) (hP : w.heap[gP]? = some (.cells #[.int .i64 k, .int .i64 u, .int .i64 v, .int .u64 d] 24 (0, 0))) (hT : w.heap[gT]? = some (.cells #[.int .i64 t] 3 (0, 0))) (hM : w.heap[gM]? = some (.cells #[.int .i64 me] 3 (0, 0))) (nP : gP ≠ gA) (nT : gT ≠ gA) (nM : gM ≠ gA) :
    Calls Try.prog 112 #[doV gA gL, .pointer (some ⟨gP, 0, none⟩), .pointer (some ⟨gM, 0, none⟩), .pointer (some ⟨gT, 0, none⟩)] w (ENextP ((epochT t me k u f).run (stM Res.n) rs) gA w) := by
  by_cases k3 : k = 3
  · subst k3; exact enext_pin gA gL m gT gM gP t me u v d ht1 ht2 hm1 hm2 f rs hf w hD hU hP hT hM nP nT nM
  by_cases k4 : k = 4
  · subst k4; exact enext_unpin gA gL m gT gM gP t me u v d ht1 ht2 hm1 hm2 f rs hf w hD hU hP hT hM nP nT nM
  by_cases k5 : k = 5
  · subst k5; exact enext_retire gA gL m gT gM gP t me u v d ht1 ht2 hm1 hm2 (hu rfl).1 (hu rfl).2 f rs hf w hD hU hP hT hM nP nT nM
  by_cases k19 : k = 19
  · subst k19; exact enext_adv gA gL m gT gM gP t me u v d ht1 ht2 hm1 hm2 f rs hf w hD hU hP hT hM nP nT nM
  by_cases k6 : k = 6
  · subst k6; exact enext_alloc gA gL m gT gM gP t me u v d ht1 ht2 hm1 hm2 f rs hf w hD hU hP hT hM nP nT nM
  exact enext_no gA gL m gT gM gP t me k u v d ht1 ht2 hm1 hm2 k3 k4 k5 k19 k6 f rs hf w hD hU hP hT hM nP nT nM
theorem boxes5e (w : World) (o0 o1 o2 o3 o4 : Obj) :
    Ext w (((((w.alloc o0).alloc o1).alloc o2).alloc o3).alloc o4) ∧ (((((w.alloc o0).alloc o1).alloc o2).alloc o3).alloc o4).heap[w.heap.size]? = some o0 ∧ (((((w.alloc o0).alloc o1).alloc o2).alloc o3).alloc o4).heap[w.heap.size + 1]? = some o1 ∧
      (((((w.alloc o0).alloc o1).alloc o2).alloc o3).alloc o4).heap[w.heap.size + 1 + 1]? = some o2 ∧ (((((w.alloc o0).alloc o1).alloc o2).alloc o3).alloc o4).heap[w.heap.size + 1 + 1 + 1]? = some o3 ∧ (((((w.alloc o0).alloc o1).alloc o2).alloc o3).alloc o4).heap[w.heap.size + 1 + 1 + 1 + 1]? = some o4 := by
  obtain ⟨h, h0, h1, h2, h3⟩ := boxes4n w o0 o1 o2 o3
  have hx : Ext ((((w.alloc o0).alloc o1).alloc o2).alloc o3) (((((w.alloc o0).alloc o1).alloc o2).alloc o3).alloc o4) := (Below.refl _ _).alloc (Nat.le_refl _) _
  have h4 := heap_alloc_new ((((w.alloc o0).alloc o1).alloc o2).alloc o3) o4
  rw [show ((((w.alloc o0).alloc o1).alloc o2).alloc o3).heap.size = w.heap.size + 1 + 1 + 1 + 1 by simp] at h4
  exact ⟨h.trans hx, heap_ext h0 hx, heap_ext h1 hx, heap_ext h2 hx, heap_ext h3 hx, h4⟩
/-- what play.Run answers of it -/
theorem erun_any (f : Nat) (t me k u v d : Int) (ht1 : 0 ≤ t) (ht2 : t ≤ 64) (hm1 : 0 ≤ me) (hm2 : me ≤ 64) (hu : k = 5 → 0 ≤ u ∧ u ≤ 1048576) (B : Option Addr) (n kc : Nat) (rs : List Res) (hf : rs.length < f) (W : World) (gT gM gP : Nat) (hlog : LogV W B n kc rs) (hU : GoodR rs) (hT : W.heap[gT]? = some (.cells #[.int .i64 t] 3 (0, 0))) (hM : W.heap[gM]? = some (.cells #[.int .i64 me] 3 (0, 0))) (hP : W.heap[gP]? = some (.cells #[.int .i64 k, .int .i64 u, .int .i64 v, .int .u64 d] 24 (0, 0))) :
    Calls Try.prog 104 #[.func (.func 112) #[] #[.pointer (some ⟨gP, 0, none⟩), .pointer (some ⟨gM, 0, none⟩), .pointer (some ⟨gT, 0, none⟩)], .slice B n kc] W fun e w' =>
      e = (nextT (epochT t me k u f) (rs.map Res.n)).fin ∧ Ext W w' := by
  have hlT := (Array.getElem?_eq_some_iff.1 hT).1
  have hlM := (Array.getElem?_eq_some_iff.1 hM).1
  have hlP := (Array.getElem?_eq_some_iff.1 hP).1
  have hmap := run_stL_map (T := epochT t me k u f) (rs := rs)
  have hfed := (epochT_fed t me k u f rs.length hf).run (l := rs) Res.n
  have hprog := fun (gA gL : Nat) (W' : World) (hx : Ext W W') (h1 : W.heap.size ≤ gA) (hD : DoAt W.heap.size W' gA gL rs) => enext_prog gA gL _ gT gM gP t me k u v d ht1 ht2 hm1 hm2 hu f rs hf W' hD hU (heap_ext hP hx) (heap_ext hT hx) (heap_ext hM hx) (by omega) (by omega) (by omega)
  cases hN : (epochT t me k u f).run (stM Res.n) rs with
  | out => exact absurd hN hfed
  | stop x =>
    rw [hN] at hmap
    have e1 : nextT (epochT t me k u f) (rs.map Res.n) = .stop x.acc := by unfold nextT; rw [hmap]
    rw [e1]
    refine run_stop 112 #[.pointer (some ⟨gP, 0, none⟩), .pointer (some ⟨gM, 0, none⟩), .pointer (some ⟨gT, 0, none⟩)] B n kc rs x.acc W hlog Try.call112 fun gA gL W' hx h1 h2 hD => (hprog gA gL W' hx h1 hD).mono ?_
    intro e w' h
    rw [hN] at h
    exact h
  | ret o s' =>
    rw [hN] at hmap
    have e1 : nextT (epochT t me k u f) (rs.map Res.n) = .done o := by unfold nextT; rw [hmap]
    rw [e1]
    refine run_done 112 #[.pointer (some ⟨gP, 0, none⟩), .pointer (some ⟨gM, 0, none⟩), .pointer (some ⟨gT, 0, none⟩)] B n kc rs o W hlog Try.call112 fun gA gL W' hx h1 h2 hD => (hprog gA gL W' hx h1 hD).mono ?_
    intro e w' h
    rw [hN] at h
    exact h
set_option maxRecDepth 100000 in
set_option maxHeartbeats 4000000 in
theorem enext_any (f : Nat) (t c me k u v d : Int) (ht1 : 0 ≤ t) (ht2 : t ≤ 64) (hm1 : 0 ≤ me) (hm2 : me ≤ 64) (hu : k = 5 → 0 ≤ u ∧ u ≤ 1048576) (B : Option Addr) (n kc : Nat) (rs : List Res) (hf : rs.length < f) (w : World) (hlog : LogV w B n kc rs) (hU : GoodR rs) (hx : ∀ x, nextT (epochT t me k u f) (rs.map Res.n) = .stop x → ∃ a : Ask, x = a.acc ∧ a.Ok) :
    Calls Try.prog 17 #[.int .i64 t, .int .i64 c, .int .i64 me, .agg #[.int .i64 k, .int .i64 u, .int .i64 v, .int .u64 d], .slice B n kc] w fun e w' => e = (nextT (epochT t me k u f) (rs.map Res.n)).fin ∧ Ext w w' := by
  have hmf : ∀ (fn : Fn) (first cap : Array Value) (w : World), (Instr.makeFunc fn first cap).run Try.prog w = .ok (.func fn first cap) w := fun _ _ _ _ => rfl
  have hrun := fun W gT gM gP h1 h2 h3 h4 => erun_any f t me k u v d ht1 ht2 hm1 hm2 hu B n kc rs hf W gT gM gP h1 hU h2 h3 h4
  generalize nextT (epochT t me k u f) (rs.map Res.n) = E at *
  go_enter Try.func17, Try.ntmps17
  go_upto_region 1 with (fail)
  obtain ⟨hW, hT, hM, hP, hE, hO⟩ := boxes5e w (.cells #[.int .i64 t] 3) (.cells #[.int .i64 me] 3) (.cells #[.int .i64 k, .int .i64 u, .int .i64 v, .int .u64 d] 24) (.cells #[.int .i64 0, .int .i64 0, .int .u64 0, .int .u64 0, .slice none 0 0, .slice none 0 0] 33) (.cells #[.int .i64 0, .bool false, .int .i64 0, .int .u64 0, .slice none 0 0] 37)
  generalize ((((w.alloc (.cells #[.int .i64 t] 3)).alloc (.cells #[.int .i64 me] 3)).alloc (.cells #[.int .i64 k, .int .i64 u, .int .i64 v, .int .u64 d] 24)).alloc (.cells #[.int .i64 0, .int .i64 0, .int .u64 0, .int .u64 0, .slice none 0 0, .slice none 0 0] 33)).alloc (.cells #[.int .i64 0, .bool false, .int .i64 0, .int .u64 0, .slice none 0 0] 37) = W at *
  have hlt : w.heap.size + 1 + 1 + 1 + 1 < W.heap.size := (Array.getElem?_eq_some_iff.1 hO).1
  have hrun2 := hrun W _ _ _ (hlog.ext hW) hT hM hP
  clear hrun
  go_wp2_with fail
  refine hrun2.mono ?_
  rintro e w1 ⟨he, hx2⟩
  obtain ⟨x0, x1, x2, x3, x4, x5, x6, x7, x8, x9, o0, o1, o2, o3, b, hend⟩ : ∃ x0 x1 x2 x3 x4 x5 x6 x7 x8 x9 o0 o1 o2 o3 b, E.fin = .returned (.tuple #[.agg #[.int .i64 x0, .int .i64 x1, .int .u64 x2, .int .u64 x3, .slice x4 x5 x6, .slice x7 x8 x9], .agg #[.int .i64 o0, .bool o1, .int .i64 o2, .int .u64 o3, .slice none 0 0], .bool b]) := by
    cases E with
    | stop x => exact ⟨_, _, _, _, _, _, _, _, _, _, _, _, _, _, _, rfl⟩
    | done o => exact ⟨_, _, _, _, _, _, _, _, _, _, _, _, _, _, _, rfl⟩
  rw [hend] at he
  subst he
  have hE1 := heap_ext hE hx2
  have hO1 := heap_ext hO hx2
  have hx1 := hW.trans hx2
  have HE := Lib.hid hend
  clear hE hO hP hT hM hx hW hlog hrun2 hend hx2
  have e0 : w1.cell? ⟨w.heap.size + 1 + 1 + 1, 0, none⟩ = some (.int .i64 0) := by simp [World.cell?, hE1]
  have ef0 : w1.frozen? ⟨w.heap.size + 1 + 1 + 1, 0, none⟩ = false := by simp [World.frozen?, hE1]
  have e1 : w1.cell? ⟨w.heap.size + 1 + 1 + 1, 1, none⟩ = some (.int .i64 0) := by simp [World.cell?, hE1]
  have ef1 : w1.frozen? ⟨w.heap.size + 1 + 1 + 1, 1, none⟩ = false := by simp [World.frozen?, hE1]
  have e2 : w1.cell? ⟨w.heap.size + 1 + 1 + 1, 2, none⟩ = some (.int .u64 0) := by simp [World.cell?, hE1]
  have ef2 : w1.frozen? ⟨w.heap.size + 1 + 1 + 1, 2, none⟩ = false := by simp [World.frozen?, hE1]
  have e3 : w1.cell? ⟨w.heap.size + 1 + 1 + 1, 3, none⟩ = some (.int .u64 0) := by simp [World.cell?, hE1]
  have ef3 : w1.frozen? ⟨w.heap.size + 1 + 1 + 1, 3, none⟩ = false := by simp [World.frozen?, hE1]
  have e4 : w1.cell? ⟨w.heap.size + 1 + 1 + 1, 4, none⟩ = some (.slice none 0 0) := by simp [World.cell?, hE1]
  have ef4 : w1.frozen? ⟨w.heap.size + 1 + 1 + 1, 4, none⟩ = false := by simp [World.frozen?, hE1]
  have e5 : w1.cell? ⟨w.heap.size + 1 + 1 + 1, 5, none⟩ = some (.slice none 0 0) := by simp [World.cell?, hE1]
  have ef5 : w1.frozen? ⟨w.heap.size + 1 + 1 + 1, 5, none⟩ = false := by simp [World.frozen?, hE1]
  have q0 : w1.cell? ⟨w.heap.size + 1 + 1 + 1 + 1, 0, none⟩ = some (.int .i64 0) := by simp [World.cell?, hO1]
  have qf0 : w1.frozen? ⟨w.heap.size + 1 + 1 + 1 + 1, 0, none⟩ = false := by simp [World.frozen?, hO1]
  have q1 : w1.cell? ⟨w.heap.size + 1 + 1 + 1 + 1, 1, none⟩ = some (.bool false) := by simp [World.cell?, hO1]
  have qf1 : w1.frozen? ⟨w.heap.size + 1 + 1 + 1 + 1, 1, none⟩ = false := by simp [World.frozen?, hO1]
  have q2 : w1.cell? ⟨w.heap.size + 1 + 1 + 1 + 1, 2, none⟩ = some (.int .i64 0) := by simp [World.cell?, hO1]
  have qf2 : w1.frozen? ⟨w.heap.size + 1 + 1 + 1 + 1, 2, none⟩ = false := by simp [World.frozen?, hO1]
  have q3 : w1.cell? ⟨w.heap.size + 1 + 1 + 1 + 1, 3, none⟩ = some (.int .u64 0) := by simp [World.cell?, hO1]
  have qf3 : w1.frozen? ⟨w.heap.size + 1 + 1 + 1 + 1, 3, none⟩ = false := by simp [World.frozen?, hO1]
  have q4 : w1.cell? ⟨w.heap.size + 1 + 1 + 1 + 1, 4, none⟩ = some (.slice none 0 0) := by simp [World.cell?, hO1]
  have qf4 : w1.frozen? ⟨w.heap.size + 1 + 1 + 1 + 1, 4, none⟩ = false := by simp [World.frozen?, hO1]
  have hPm : (setAll (w.heap.size + 1 + 1 + 1 + 1) 0 [.int .i64 o0, .bool o1, .int .i64 o2, .int .u64 o3, .slice none 0 0] (setAll (w.heap.size + 1 + 1 + 1) 0 [.int .i64 x0, .int .i64 x1, .int .u64 x2, .int .u64 x3, .slice x4 x5 x6, .slice x7 x8 x9] w1)).heap[w.heap.size + 1 + 1 + 1 + 1]? = some (.cells #[.int .i64 o0, .bool o1, .int .i64 o2, .int .u64 o3, .slice none 0 0] 37 (0, 0)) := setAll_all (vs := [.int .i64 o0, .bool o1, .int .i64 o2, .int .u64 o3, .slice none 0 0]) ((setAll_other (g := w.heap.size + 1 + 1 + 1) (by omega) [.int .i64 x0, .int .i64 x1, .int .u64 x2, .int .u64 x3, .slice x4 x5 x6, .slice x7 x8 x9] 0 w1).trans hO1) rfl
  have hEm : (setAll (w.heap.size + 1 + 1 + 1 + 1) 0 [.int .i64 o0, .bool o1, .int .i64 o2, .int .u64 o3, .slice none 0 0] (setAll (w.heap.size + 1 + 1 + 1) 0 [.int .i64 x0, .int .i64 x1, .int .u64 x2, .int .u64 x3, .slice x4 x5 x6, .slice x7 x8 x9] w1)).heap[w.heap.size + 1 + 1 + 1]? = some (.cells #[.int .i64 x0, .int .i64 x1, .int .u64 x2, .int .u64 x3, .slice x4 x5 x6, .slice x7 x8 x9] 33 (0, 0)) := (setAll_other (g := w.heap.size + 1 + 1 + 1 + 1) (by omega) [.int .i64 o0, .bool o1, .int .i64 o2, .int .u64 o3, .slice none 0 0] 0 (setAll (w.heap.size + 1 + 1 + 1) 0 [.int .i64 x0, .int .i64 x1, .int .u64 x2, .int .u64 x3, .slice x4 x5 x6, .slice x7 x8 x9] w1)).trans (setAll_all (vs := [.int .i64 x0, .int .i64 x1, .int .u64 x2, .int .u64 x3, .slice x4 x5 x6, .slice x7 x8 x9]) hE1 rfl)
  have hF : Ext w (setAll (w.heap.size + 1 + 1 + 1 + 1) 0 [.int .i64 o0, .bool o1, .int .i64 o2, .int .u64 o3, .slice none 0 0] (setAll (w.heap.size + 1 + 1 + 1) 0 [.int .i64 x0, .int .i64 x1, .int .u64 x2, .int .u64 x3, .slice x4 x5 x6, .slice x7 x8 x9] w1)) := setAll_ext (g := w.heap.size + 1 + 1 + 1 + 1) (setAll_ext (g := w.heap.size + 1 + 1 + 1) hx1 (by omega)) (by omega)
  simp only [setAll] at hPm hEm hF
  clear hE1 hO1 hx1
  go_wp2
  generalize (((((((((((w1.setCell ⟨w.heap.size + 1 + 1 + 1, 0, none⟩ (.int .i64 x0)).setCell ⟨w.heap.size + 1 + 1 + 1, 1, none⟩ (.int .i64 x1)).setCell ⟨w.heap.size + 1 + 1 + 1, 2, none⟩ (.int .u64 x2)).setCell ⟨w.heap.size + 1 + 1 + 1, 3, none⟩ (.int .u64 x3)).setCell ⟨w.heap.size + 1 + 1 + 1, 4, none⟩ (.slice x4 x5 x6)).setCell ⟨w.heap.size + 1 + 1 + 1, 5, none⟩ (.slice x7 x8 x9)).setCell ⟨w.heap.size + 1 + 1 + 1 + 1, 0, none⟩ (.int .i64 o0)).setCell ⟨w.heap.size + 1 + 1 + 1 + 1, 1, none⟩ (.bool o1)).setCell ⟨w.heap.size + 1 + 1 + 1 + 1, 2, none⟩ (.int .i64 o2)).setCell ⟨w.heap.size + 1 + 1 + 1 + 1, 3, none⟩ (.int .u64 o3)).setCell ⟨w.heap.size + 1 + 1 + 1 + 1, 4, none⟩ (.slice none 0 0)) = wf at *
  clear e0 e1 e2 e3 e4 e5 ef0 ef1 ef2 ef3 ef4 ef5 q0 q1 q2 q3 q4 qf0 qf1 qf2 qf3 qf4
  have e0 : wf.cell? ⟨w.heap.size + 1 + 1 + 1, 0, none⟩ = some (.int .i64 x0) := by simp [World.cell?, hEm]
  have e1 : wf.cell? ⟨w.heap.size + 1 + 1 + 1, 1, none⟩ = some (.int .i64 x1) := by simp [World.cell?, hEm]
  have e2 : wf.cell? ⟨w.heap.size + 1 + 1 + 1, 2, none⟩ = some (.int .u64 x2) := by simp [World.cell?, hEm]
  have e3 : wf.cell? ⟨w.heap.size + 1 + 1 + 1, 3, none⟩ = some (.int .u64 x3) := by simp [World.cell?, hEm]
  have e4 : wf.cell? ⟨w.heap.size + 1 + 1 + 1, 4, none⟩ = some (.slice x4 x5 x6) := by simp [World.cell?, hEm]
  have e5 : wf.cell? ⟨w.heap.size + 1 + 1 + 1, 5, none⟩ = some (.slice x7 x8 x9) := by simp [World.cell?, hEm]
  have q0 : wf.cell? ⟨w.heap.size + 1 + 1 + 1 + 1, 0, none⟩ = some (.int .i64 o0) := by simp [World.cell?, hPm]
  have q1 : wf.cell? ⟨w.heap.size + 1 + 1 + 1 + 1, 1, none⟩ = some (.bool o1) := by simp [World.cell?, hPm]
  have q2 : wf.cell? ⟨w.heap.size + 1 + 1 + 1 + 1, 2, none⟩ = some (.int .i64 o2) := by simp [World.cell?, hPm]
  have q3 : wf.cell? ⟨w.heap.size + 1 + 1 + 1 + 1, 3, none⟩ = some (.int .u64 o3) := by simp [World.cell?, hPm]
  have q4 : wf.cell? ⟨w.heap.size + 1 + 1 + 1 + 1, 4, none⟩ = some (.slice none 0 0) := by simp [World.cell?, hPm]
  refine bodyPost_ret (v := .tuple #[.agg #[.int .i64 x0, .int .i64 x1, .int .u64 x2, .int .u64 x3, .slice x4 x5 x6, .slice x7 x8 x9], .agg #[.int .i64 o0, .bool o1, .int .i64 o2, .int .u64 o3, .slice none 0 0], .bool b]) (by simp [results, Try.results17, go_sem, e0, e1, e2, e3, e4, e5, q0, q1, q2, q3, q4]) rfl ⟨HE.out.symm, hF⟩
end Go.Proofs.Ytjokaginolpbeaa

namespace Go.Proofs.Ytjokaginolpbeaa
open Go.RowKit

/-! Worlds behind Pop and Push. -/
theorem Fit.put {X : WldK} {m : Nat} (h : Fit X m) (i a : Int) : Fit (X.put i a) m := ⟨h.pos, h.le, h.root, by rw [put_len]; exact h.ws, h.k0, h.k1⟩
theorem WOk.put {X : WldK} (h : WOk X) (i : Int) {a : Int} (ha : U64 a) : WOk (X.put i a) := ⟨h.1.put i a, put_u h.2.1 ha, by rw [put_len]; exact h.2.2⟩
theorem WOk.pop {X : WldK} (h : WOk X) (t : Nat) : WOk (popX X t) := h.put _ (topN_u _ _)
theorem new_wok {t c : Nat} (t1 : 1 ≤ t) (t2 : t ≤ 64) (hc : c ≤ 1000) : WOk (newW t c) := by
  have hd := new_dim (t := t) (c := c) t1 t2 (by omega)
  refine ⟨⟨?_, ?_, ⟨by simp [newW], by simp [newW]⟩, ?_, ?_, ?_⟩, hd.u, ?_⟩
  · simp only [newW, newN]; rw [if_pos (by omega)]; omega
  · simp only [newW, newN]; rw [if_pos (by omega)]; omega
  · rw [hd.len]; unfold memL; omega
  · intro k hk; obtain ⟨_, rfl⟩ := List.mem_replicate.1 hk; simp
  · intro k hk; obtain ⟨_, rfl⟩ := List.mem_replicate.1 hk; simp
  · rw [hd.len]; unfold memL; omega
end Go.Proofs.Ytjokaginolpbeaa

namespace Go.Proofs.Ytjokaginolpbeaa
open Go.RowKit

/-! An operation on epochs, stepping alone. -/
theorem aloneN_ok {P : List Int → NextE} {me : Int} (hP : ∀ (ns : List Int) (x : Acc), U64s ns → P ns = .stop x → ∃ a : Ask, x = a.acc ∧ a.Ok) : ∀ (n : Nat) (X : WldK) (ns : List Int), WOk X → U64s ns → WOk (aloneN P me n X ns).1 ∧ (aloneN P me n X ns).1.T = X.T ∧ (aloneN P me n X ns).1.C = X.C
  | 0, X, ns, h, _ => ⟨h, rfl, rfl⟩
  | n + 1, X, ns, h, hn => by
    unfold aloneN
    cases hp : P ns with
    | done o => exact ⟨h, rfl, rfl⟩
    | stop x =>
      obtain ⟨a, rfl, ha⟩ := hP ns x hn hp
      obtain ⟨h1, h2, h3, h4⟩ := h.step me ha
      have h5 := aloneN_ok (me := me) hP n (doK X me a.K false) (ns ++ [(doR X a.K false).N]) h1 (fun m hm => by
        rcases List.mem_append.1 hm with hm | hm
        · exact hn m hm
        · rw [List.mem_singleton.1 hm]; exact h2)
      exact ⟨h5.1, h5.2.1.trans h3, h5.2.2.trans h4⟩
theorem epochN_ok (t me k u : Int) (f : Nat) (hu : k = 5 → U64 u) (ns : List Int) (x : Acc) (h : U64s ns) (hx : nextT (epochT t me k u f) ns = .stop x) : ∃ a : Ask, x = a.acc ∧ a.Ok := by
  unfold nextT at hx
  cases hr : (epochT t me k u f).run stL ns with
  | ret o l => rw [hr] at hx; simp at hx
  | out => rw [hr] at hx; simp at hx
  | stop y => rw [hr] at hx; simp only [NextE.stop.injEq] at hx; exact ⟨y, hx.symm, (epochT_ok t me k u f hu).stop h hr⟩
theorem eal_any (f : Nat) (X : WldK) (t : Nat) (hT : X.T = (t : Int)) (ht2 : t ≤ 64) (hX : WOk X) (wv : Value) (me k u v d M : Int) (hm1 : 0 ≤ me) (hm2 : me ≤ 64) (hu : k = 5 → 0 ≤ u ∧ u ≤ 1048576) (most : Nat) (hM : (most : Int) = M) (hf : most < f) (hm : most ≤ 900) (w : World) (hV : WldV w wv X) :
    Calls Try.prog 22 #[wv, .int .i64 me, .agg #[.int .i64 k, .int .i64 u, .int .i64 v, .int .u64 d], .int .i64 M] w fun e w' => ∃ v', e = .returned (.tuple #[v', .agg (aloneN (nextT (epochT t me k u f)) me (most + 1) X []).2.1.cells, .bool (aloneN (nextT (epochT t me k u f)) me (most + 1) X []).2.2]) ∧ WldV w' v' (aloneN (nextT (epochT t me k u f)) me (most + 1) X []).1 ∧ Ext w w' := by
  subst hM
  have hu2 : k = 5 → U64 u := fun h => by have := hu h; unfold U64; omega
  refine ealone_any (nextT (epochT t me k u f)) X wv me k u v d most hm w hV hX ?_ (fun ns x h hx => epochN_ok _ _ _ _ _ hu2 ns x h hx)
  intro T C B n kc rs w' hT' hC hl hlog hG
  obtain rfl : T = (t : Int) := hT'.trans hT
  exact enext_any f _ _ _ _ _ _ _ (by omega) (by omega) hm1 hm2 hu B n kc rs (by omega) w' hlog hG (fun x hx => epochN_ok _ _ _ _ _ hu2 _ x hG.u64s hx)
end Go.Proofs.Ytjokaginolpbeaa

namespace Go.Proofs.Ytjokaginolpbeaa
open Go.RowKit

/-! The example of chapter 13, in plain. -/
def exP (me k u : Int) : List Int → NextE := nextT (epochT ((2 : Nat) : Int) me k u 100)
def exV : WldK × OutN × Bool := aloneN (exP 0 6 0) 0 (99 + 1) (newW 2 1) []
def exU : WldK × OutN × Bool := aloneN (exP 0 5 1) 0 (99 + 1) exV.1 []
def exX : WldK × OutN × Bool := aloneN (exP 1 6 0) 1 (99 + 1) exU.1 []
def exD : WldK × OutN × Bool := aloneN (exP 0 6 0) 0 (99 + 1) exX.1 []
def exY : WldK × OutN × Bool := aloneN (exP 1 3 0) 1 (9 + 1) (newW 2 1) []
theorem exV_eq : exV.2 = (⟨0, false, 1, 0⟩, true) := by kernel_rfl
theorem exU_eq : exU.2 = (⟨0, false, 0, 0⟩, true) := by kernel_rfl
theorem exX_eq : exX.2 = (⟨0, false, 1, 0⟩, true) := by kernel_rfl
theorem exD_eq : exD.2 = (⟨0, false, 0, 0⟩, true) := by kernel_rfl
theorem exY_eq : exY.2 = (⟨0, false, 0, 0⟩, true) := by kernel_rfl
theorem exY_len : exY.1.ws.length = 18 := by kernel_rfl
theorem exY_at : exY.1.at 9 = 1 := by kernel_rfl
theorem ex0 : WOk (newW 2 1) ∧ (newW 2 1).T = ((2 : Nat) : Int) := ⟨new_wok (by omega) (by omega) (by omega), rfl⟩
theorem ex_ok {X : WldK} (h : WOk X ∧ X.T = ((2 : Nat) : Int)) (me k u : Int) (hu : k = 5 → U64 u) (n : Nat) : WOk (aloneN (exP me k u) me n X []).1 ∧ (aloneN (exP me k u) me n X []).1.T = ((2 : Nat) : Int) := by
  obtain ⟨h1, h2, -⟩ := aloneN_ok (P := exP me k u) (me := me) (fun ns x h hx => epochN_ok _ _ _ _ _ hu ns x h hx) n X [] h.1 (fun m hm => by cases hm)
  exact ⟨h1, h2.trans h.2⟩
theorem exV_ok : WOk exV.1 ∧ exV.1.T = ((2 : Nat) : Int) := ex_ok ex0 0 6 0 (by omega) _
theorem exU_ok : WOk exU.1 ∧ exU.1.T = ((2 : Nat) : Int) := ex_ok exV_ok 0 5 1 (fun _ => by unfold U64; omega) _
theorem exX_ok : WOk exX.1 ∧ exX.1.T = ((2 : Nat) : Int) := ex_ok exU_ok 1 6 0 (by omega) _
theorem exc_V (wv : Value) (w : World) (hV : WldV w wv (newW 2 1)) : Calls Try.prog 22 #[wv, .int .i64 0, .agg #[.int .i64 6, .int .i64 0, .int .i64 0, .int .u64 0], .int .i64 99] w fun e w' => ∃ v', e = .returned (.tuple #[v', .agg #[.int .i64 0, .bool false, .int .i64 1, .int .u64 0, .slice none 0 0], .bool true]) ∧ WldV w' v' exV.1 ∧ Ext w w' := by
  have h := eal_any 100 (newW 2 1) 2 ex0.2 (by omega) ex0.1 wv 0 6 0 0 0 99 (by omega) (by omega) (by omega) 99 rfl (by omega) (by omega) w hV
  rw [show aloneN (nextT (epochT ((2 : Nat) : Int) 0 6 0 100)) 0 (99 + 1) (newW 2 1) [] = exV from rfl, exV_eq] at h
  exact h
theorem exc_U (wv : Value) (w : World) (hV : WldV w wv (exV.1)) : Calls Try.prog 22 #[wv, .int .i64 0, .agg #[.int .i64 5, .int .i64 1, .int .i64 0, .int .u64 0], .int .i64 99] w fun e w' => ∃ v', e = .returned (.tuple #[v', .agg #[.int .i64 0, .bool false, .int .i64 0, .int .u64 0, .slice none 0 0], .bool true]) ∧ WldV w' v' exU.1 ∧ Ext w w' := by
  have h := eal_any 100 (exV.1) 2 exV_ok.2 (by omega) exV_ok.1 wv 0 5 1 0 0 99 (by omega) (by omega) (by omega) 99 rfl (by omega) (by omega) w hV
  rw [show aloneN (nextT (epochT ((2 : Nat) : Int) 0 5 1 100)) 0 (99 + 1) (exV.1) [] = exU from rfl, exU_eq] at h
  exact h
theorem exc_X (wv : Value) (w : World) (hV : WldV w wv (exU.1)) : Calls Try.prog 22 #[wv, .int .i64 1, .agg #[.int .i64 6, .int .i64 0, .int .i64 0, .int .u64 0], .int .i64 99] w fun e w' => ∃ v', e = .returned (.tuple #[v', .agg #[.int .i64 0, .bool false, .int .i64 1, .int .u64 0, .slice none 0 0], .bool true]) ∧ WldV w' v' exX.1 ∧ Ext w w' := by
  have h := eal_any 100 (exU.1) 2 exU_ok.2 (by omega) exU_ok.1 wv 1 6 0 0 0 99 (by omega) (by omega) (by omega) 99 rfl (by omega) (by omega) w hV
  rw [show aloneN (nextT (epochT ((2 : Nat) : Int) 1 6 0 100)) 1 (99 + 1) (exU.1) [] = exX from rfl, exX_eq] at h
  exact h
theorem exc_D (wv : Value) (w : World) (hV : WldV w wv (exX.1)) : Calls Try.prog 22 #[wv, .int .i64 0, .agg #[.int .i64 6, .int .i64 0, .int .i64 0, .int .u64 0], .int .i64 99] w fun e w' => ∃ v', e = .returned (.tuple #[v', .agg #[.int .i64 0, .bool false, .int .i64 0, .int .u64 0, .slice none 0 0], .bool true]) ∧ WldV w' v' exD.1 ∧ Ext w w' := by
  have h := eal_any 100 (exX.1) 2 exX_ok.2 (by omega) exX_ok.1 wv 0 6 0 0 0 99 (by omega) (by omega) (by omega) 99 rfl (by omega) (by omega) w hV
  rw [show aloneN (nextT (epochT ((2 : Nat) : Int) 0 6 0 100)) 0 (99 + 1) (exX.1) [] = exD from rfl, exD_eq] at h
  exact h
theorem exc_Y (wv : Value) (w : World) (hV : WldV w wv (newW 2 1)) : Calls Try.prog 22 #[wv, .int .i64 1, .agg #[.int .i64 3, .int .i64 0, .int .i64 0, .int .u64 0], .int .i64 9] w fun e w' => ∃ v', e = .returned (.tuple #[v', .agg #[.int .i64 0, .bool false, .int .i64 0, .int .u64 0, .slice none 0 0], .bool true]) ∧ WldV w' v' exY.1 ∧ Ext w w' := by
  have h := eal_any 100 (newW 2 1) 2 ex0.2 (by omega) ex0.1 wv 1 3 0 0 0 9 (by omega) (by omega) (by omega) 9 rfl (by omega) (by omega) w hV
  rw [show aloneN (nextT (epochT ((2 : Nat) : Int) 1 3 0 100)) 1 (9 + 1) (newW 2 1) [] = exY from rfl, exY_eq] at h
  exact h
end Go.Proofs.Ytjokaginolpbeaa

namespace Go.Proofs.Ytjokaginolpbeaa
open Go.RowKit

/-! wealdref11: a log that is gone through. -/
def Res.zero : Res := ⟨0, none, 0, 0, false⟩
/-- how far a log is gone through, whether it stopped, and what is asked -/
structure Cu where
  i : Nat
  stop : Bool
  x : Acc
def Cu.told (rs : List Res) (s : Cu) : Res := if s.stop then Res.zero else (rs[s.i]?).getD Res.zero
def Cu.next (rs : List Res) (y : Acc) (s : Cu) : Cu := if s.stop then s else if s.i < rs.length then ⟨s.i + 1, false, s.x⟩ else ⟨s.i, true, y⟩
def curCells (A : Option Addr) (n c : Nat) (s : Cu) : List Value := [.slice A n c, .int .i64 s.i, .bool s.stop, .int .i64 s.x.kind, .int .i64 s.x.cell, .int .u64 s.x.a, .int .u64 s.x.b, .slice s.x.D s.x.dk s.x.dc, .slice s.x.W s.x.wk s.x.wc]
def CurAt (w : World) (g : Nat) (A : Option Addr) (n c : Nat) (s : Cu) : Prop := w.heap[g]? = some (.cells (curCells A n c s).toArray 142 (0, 0))
end Go.Proofs.Ytjokaginolpbeaa

namespace Go.Proofs.Ytjokaginolpbeaa
open Go.RowKit

/-! wealdref11.Cur: Load, Store, Cas. -/
theorem LogV.cur {w w' : World} {g : Nat} {A : Option Addr} {n c : Nat} {rs : List Res} (h : LogV w A n c rs) (hx : ExtB g w w') (hsep : ∀ a, A = some a → 0 < n → a.block ≠ g) : LogV w' A n c rs :=
  ⟨h.len, h.small, fun j r hr => let ⟨a, ha, h1⟩ := h.at_ j r hr; ⟨a, ha, h1.extB hx (hsep a ha (by have := (List.getElem?_eq_some_iff.1 hr).1; have := h.len; omega))⟩⟩
theorem CurAt.ext {w w' : World} {g : Nat} {A : Option Addr} {n c : Nat} {s : Cu} (h : CurAt w g A n c s) (hx : Ext w w') : CurAt w' g A n c s := heap_ext h hx
end Go.Proofs.Ytjokaginolpbeaa

namespace Go.Proofs.Ytjokaginolpbeaa
open Go.RowKit

/-! The document's text (wealdref08), and 'shown'. -/
end Go.Proofs.Ytjokaginolpbeaa

namespace Go.Proofs.Ytjokaginolpbeaa
open Go.RowKit

/-! wealdref12.Pop, wealdref12.Push: what popN and pushN say. -/
def Cu.after (rs : List Res) (s : Cu) : ProgE → Cu
  | .stop x => ⟨rs.length, true, x⟩
  | .ret _ k => ⟨k, false, s.x⟩
def ProgE.val : ProgE → Int
  | .stop _ => 0
  | .ret r _ => r
theorem Cu.on {rs : List Res} {s : Cu} {y : Acc} {r : Res} {R : List Res} (hs : s.stop = false) (h : rs.drop s.i = r :: R) : s.told rs = r ∧ s.next rs y = ⟨s.i + 1, false, s.x⟩ ∧ rs.drop (s.i + 1) = R := by
  have h1 : s.i < rs.length := by
    rcases Nat.lt_or_ge s.i rs.length with h' | h'
    · exact h'
    · rw [List.drop_eq_nil_of_le h'] at h; cases h
  have h2 : rs[s.i]? = some r := by rw [List.getElem?_eq_getElem h1]; rw [List.drop_eq_getElem_cons h1] at h; injection h with h _; rw [h]
  refine ⟨by simp [Cu.told, hs, h2], by simp [Cu.next, hs, h1], ?_⟩
  rw [show rs.drop (s.i + 1) = (rs.drop s.i).drop 1 by rw [List.drop_drop], h]; rfl
theorem Cu.off {rs : List Res} {s : Cu} {y : Acc} (hs : s.stop = false) (h : rs.drop s.i = []) (hi : s.i ≤ rs.length) : s.told rs = Res.zero ∧ s.next rs y = ⟨rs.length, true, y⟩ := by
  have h1 : s.i = rs.length := by
    rcases Nat.lt_or_ge s.i rs.length with h' | h'
    · rw [List.drop_eq_getElem_cons h'] at h; cases h
    · omega
  refine ⟨by simp [Cu.told, hs, h1], by simp [Cu.next, hs, h1]⟩
theorem Cu.still {rs : List Res} {s : Cu} {y : Acc} (hs : s.stop = true) : s.told rs = Res.zero ∧ s.next rs y = s := by simp [Cu.told, Cu.next, hs]
def curM (g : Nat) (w : World) : Nat := match w.cell? ⟨g, 2, none⟩ with
  | some (.bool true) => 0
  | _ => match w.cell? ⟨g, 1, none⟩ with
    | some (.int _ i) => 65537 - i.toNat
    | _ => 0
theorem CurAt.cells {w : World} {g : Nat} {A : Option Addr} {n c : Nat} {s : Cu} (h : CurAt w g A n c s) : w.cell? ⟨g, 1, none⟩ = some (.int .i64 (s.i : Int)) ∧ w.cell? ⟨g, 2, none⟩ = some (.bool s.stop) := by
  unfold CurAt curCells at h
  simp [World.cell?, h]
theorem CurAt.m {w : World} {g : Nat} {A : Option Addr} {n c : Nat} {s : Cu} (h : CurAt w g A n c s) : curM g w = if s.stop then 0 else 65537 - s.i := by
  obtain ⟨h1, h2⟩ := h.cells
  unfold curM
  rw [h2, h1]
  cases s.stop <;> simp
end Go.Proofs.Ytjokaginolpbeaa

namespace Go.Proofs.Ytjokaginolpbeaa
open Go.RowKit

/-! A row of ints of the call's own, its spare part known too: what is laid onto it turns no world. -/
def intCells (l : List Int) : List Value := l.map (.int .i64)
theorem intCells_append (a b : List Int) : intCells (a ++ b) = intCells a ++ intCells b := by simp [intCells]
theorem intCells_length (l : List Int) : (intCells l).length = l.length := by simp [intCells]
theorem intCells_take (l : List Int) (n : Nat) : (intCells l).take n = intCells (l.take n) := by simp [intCells, List.map_take]
theorem intCells_drop (l : List Int) (n : Nat) : (intCells l).drop n = intCells (l.drop n) := by simp [intCells, List.map_drop]
theorem intCells_at {l : List Int} {i : Nat} {x : Int} (h : l[i]? = some x) : (intCells l)[i]? = some (.int .i64 x) := by simp [intCells, h]
theorem intCells_one (l : List Int) : ∀ u ∈ intCells l, u.oneCell' = true := by
  intro u hu
  obtain ⟨x, _, rfl⟩ := List.mem_map.1 hu
  rfl
theorem int_boxish : ∀ l : List Int, boxish (intCells l) = true
  | [] => rfl
  | [r] => rfl
  | r :: r' :: l => by
    have h := int_boxish (r' :: l)
    simpa [intCells, boxish, kindV] using h
theorem info_i64 : (Try.prog.info? 3).map (fun i => (i.zero, i.size, i.bytes)) = some (some (.int .i64 0), 1, 8) := by kernel_rfl
theorem zero_int (k : Nat) : (Builtin.zeroCells (Value.cells (.int .i64 0)) k).toList = intCells (List.replicate k 0) := by
  refine List.ext_getElem? fun x => ?_
  by_cases hx : x < k
  · simp [Builtin.zeroCells, intCells, Value.cells, hx, Nat.mod_one]
  · rw [List.getElem?_eq_none (by simp [Builtin.zeroCells, Value.cells]; omega), List.getElem?_eq_none (by rw [intCells_length]; simp; omega)]
def IntOwn (w : World) (base : Nat) (v : Value) (n : Nat) (l : List Int) : Prop :=
  l.length = n ∧ ((v = .slice none 0 0 ∧ n = 0) ∨ ∃ g cap full, v = .slice (some ⟨g, 0, none⟩) n cap ∧ base ≤ g ∧ w.heap[g]? = some (.cells (intCells full).toArray 3 (0, 0)) ∧ n ≤ cap ∧ cap ≤ maxLen ∧ full.length = cap ∧ full.take n = l)
theorem IntOwn.nil (w : World) (base : Nat) : IntOwn w base (.slice none 0 0) 0 [] := ⟨rfl, .inl ⟨rfl, rfl⟩⟩
theorem IntOwn.kept {w w' : World} {base : Nat} {v : Value} {n : Nat} {l : List Int} (h : IntOwn w base v n l) (hk : ∀ g o, base ≤ g → some g = v.ownBlock → w.heap[g]? = some o → w'.heap[g]? = some o) : IntOwn w' base v n l := by
  refine ⟨h.1, ?_⟩
  rcases h.2 with h2 | ⟨g, cap, full, e, hb, hg, h3⟩
  · exact .inl h2
  · exact .inr ⟨g, cap, full, e, hb, hk g _ hb (by rw [e]; rfl) hg, h3⟩
theorem IntOwn.ext {w w' : World} {base : Nat} {v : Value} {n : Nat} {l : List Int} (h : IntOwn w base v n l) (hx : Ext w w') : IntOwn w' base v n l := h.kept fun _ _ _ _ ho => heap_ext ho hx
/-- another own row grows -/
theorem IntOwn.grown {w w' : World} {base : Nat} {v u : Value} {n : Nat} {l : List Int} (h : IntOwn w base v n l) (hg : w.grownBy w' u.ownBlock) (hne : ∀ g, v.ownBlock = some g → u.ownBlock ≠ some g) : IntOwn w' base v n l :=
  h.kept fun g o _ hv ho => by
    rw [hg.block g (Array.getElem?_eq_some_iff.1 ho).1 (fun e => hne g hv.symm e.symm)]; exact ho
theorem IntOwn.form {w : World} {base : Nat} {v : Value} {n : Nat} {l : List Int} (h : IntOwn w base v n l) : ∃ B c, v = .slice B n c ∧ Cells w B (intCells l) ∧ (B = none → c = 0 ∧ n = 0) ∧ (∀ b, B = some b → ∃ g, b = ⟨g, 0, none⟩ ∧ base ≤ g ∧ v.ownBlock = some g) ∧ n ≤ c ∧ c ≤ maxLen := by
  obtain ⟨hl, h⟩ := h
  rcases h with ⟨rfl, rfl⟩ | ⟨g, cap, full, rfl, hb, hg, h1, h2, h3, rfl⟩
  · have : l = [] := List.eq_nil_of_length_eq_zero hl
    subst this
    exact ⟨none, 0, rfl, Cells.nil _ _, fun _ => ⟨rfl, rfl⟩, (by intro b h; cases h), Nat.le_refl _, by simp only [maxLen]; omega⟩
  · refine ⟨_, _, rfl, fun _ => ⟨_, rfl, fun j u hj => ?_⟩, (by intro h; cases h), (by intro b h; cases h; exact ⟨g, rfl, hb, rfl⟩), h1, h2⟩
    rw [← intCells_take, List.getElem?_take] at hj
    split at hj
    · obtain ⟨a, ha, hc⟩ := cells_heap hg (fun e => by rw [e] at hj; simp at hj)
      cases ha
      exact hc j u hj
    · cases hj
/-- an element of it -/
theorem IntOwn.at {w : World} {base : Nat} {v : Value} {n : Nat} {l : List Int} (h : IntOwn w base v n l) {i : Nat} {x : Int} (hi : l[i]? = some x) : ∃ g c, v = .slice (some ⟨g, 0, none⟩) n c ∧ base ≤ g ∧ n ≤ c ∧ c ≤ maxLen ∧ w.cell? ⟨g, i, none⟩ = some (.int .i64 x) := by
  obtain ⟨hl, h⟩ := h
  rcases h with ⟨rfl, rfl⟩ | ⟨g, cap, full, rfl, hb, hg, h1, h2, h3, rfl⟩
  · have : l = [] := List.eq_nil_of_length_eq_zero hl
    subst this; simp at hi
  · refine ⟨g, cap, rfl, hb, h1, h2, ?_⟩
    rw [List.getElem?_take] at hi
    split at hi
    · have := intCells_at hi
      simp only [World.cell?, hg, Option.isSome_none, Bool.false_eq_true, if_false]
      simpa using this
    · cases hi
/-- the last one taken off -/
theorem IntOwn.pop {w : World} {base : Nat} {g cap n : Nat} {l : List Int} (h : IntOwn w base (.slice (some ⟨g, 0, none⟩) (n + 1) cap) (n + 1) l) : IntOwn w base (.slice (some ⟨g, 0, none⟩) n cap) n l.dropLast := by
  obtain ⟨hl, h⟩ := h
  rcases h with ⟨h, _⟩ | ⟨g', cap', full, e, hb, hg, h1, h2, h3, rfl⟩
  · cases h
  · cases e
    refine ⟨by rw [List.length_dropLast, hl]; omega, .inr ⟨g, cap, full, rfl, hb, hg, by omega, h2, h3, ?_⟩⟩
    rw [List.dropLast_eq_take, List.take_take, hl]
    congr 1; omega
theorem WldV.grownI {w w' : World} {base : Nat} {v : Value} {n : Nat} {l : List Int} (h : IntOwn w base v n l) (hg : w.grownBy w' v.ownBlock) {x : Value} {X : WldK} (hV : WldV w x X) (hl : 2 ≤ X.ws.length) : WldV w' x X := by
  rcases h.2 with ⟨rfl, _⟩ | ⟨g, cap, full, rfl, _, hh, _⟩
  · exact hV.ext ⟨hg.os, hg.tape, hg.output, hg.size, fun k hk => hg.block k hk (by simp [Value.ownBlock])⟩
  · refine hV.but hl (g := g) (fun k o hk ho => ?_) hh (int_boxish full)
    rw [hg.block k (Array.getElem?_eq_some_iff.1 ho).1 (by simp [Value.ownBlock]; exact hk)]; exact ho
theorem grownI_heap {w w' : World} {base : Nat} {v : Value} {n : Nat} {l : List Int} (h : IntOwn w base v n l) (hg : w.grownBy w' v.ownBlock) {k : Nat} {o : Obj} (hk : v.ownBlock ≠ some k) (ho : w.heap[k]? = some o) : w'.heap[k]? = some o := by
  rw [hg.block k (Array.getElem?_eq_some_iff.1 ho).1 (fun e => hk e.symm)]; exact ho
theorem IntOwn.low {w : World} {base : Nat} {v : Value} {n : Nat} {l : List Int} (h : IntOwn w base v n l) {k : Nat} (hk : k < base) : v.ownBlock ≠ some k := by
  rcases h.2 with ⟨rfl, _⟩ | ⟨g, cap, full, rfl, hb, hh, _⟩
  · simp [Value.ownBlock]
  · simp only [Value.ownBlock]; intro e; injection e with e; omega
theorem IntOwn.lt {w : World} {base : Nat} {v : Value} {n : Nat} {l : List Int} (h : IntOwn w base v n l) {k : Nat} (hk : v.ownBlock = some k) : base ≤ k ∧ k < w.heap.size := by
  rcases h.2 with ⟨rfl, _⟩ | ⟨g, cap, full, rfl, hb, hh, _⟩
  · simp [Value.ownBlock] at hk
  · simp only [Value.ownBlock] at hk; injection hk with hk; subst hk; exact ⟨hb, (Array.getElem?_eq_some_iff.1 hh).1⟩
theorem IntOwn.ne_box {w : World} {base : Nat} {v : Value} {n : Nat} {l : List Int} (h : IntOwn w base v n l) {k : Nat} {cs : Array Value} {T : TypeId} {fr : Nat × Nat} (hk : w.heap[k]? = some (.cells cs T fr)) (hT : T ≠ 3) : v.ownBlock ≠ some k := by
  rcases h.2 with ⟨rfl, _⟩ | ⟨g, cap, full, rfl, hb, hh, _⟩
  · simp [Value.ownBlock]
  · simp only [Value.ownBlock]; intro e; injection e with e; subst e
    rw [hh] at hk; simp only [Option.some.injEq, Obj.cells.injEq] at hk; exact hT hk.2.1.symm
theorem grownI_ext {w0 w w' : World} {base : Nat} {v : Value} {n : Nat} {l : List Int} (h : IntOwn w base v n l) (hg : w.grownBy w' v.ownBlock) (h0 : Ext w0 w) (hb : w0.heap.size ≤ base) : Ext w0 w' :=
  ⟨hg.os.trans h0.os, hg.tape.trans h0.tape, hg.output.trans h0.output, Nat.le_trans h0.size hg.size, fun k hk => by
    have h1 : k < w.heap.size := Nat.lt_of_lt_of_le hk h0.size
    obtain ⟨o, ho⟩ : ∃ o, w.heap[k]? = some o := ⟨_, Array.getElem?_eq_getElem h1⟩
    rw [grownI_heap h hg (h.low (by omega)) ho, ← ho]
    exact h0.block k hk⟩
/-- a new row, or the old one -/
theorem run_append_int {P : Program} {w : World} (base : Nat) (t ty : TypeId) (i : TypeInfo) (ht : P.underlying t = some (.slice 3)) (hi : P.info? 3 = some i) (hz : i.zero = some (.int .i64 0)) (hsize : i.size = 1) (hby : i.bytes = 8)
    (v : Value) (n : Nat) (l : List Int) (hown : IntOwn w base v n l) (a : Addr) (m c : Nat) (l2 : List Int) (hm : l2.length = m) (h0 : v = .slice none 0 0 → 0 < m) (hnews : ∀ j u, (intCells l2)[j]? = some u → w.cell? (a.add j) = some u) (hn : n + m ≤ 1000000) (hbase : base ≤ w.heap.size) :
    ∃ v' w', (Builtin.append_ #[t, t] ty #[v, .slice (some a) m c]).run P w = .ok v' w' ∧ IntOwn w' base v' (n + m) (l ++ l2) ∧ w.grownBy w' v.ownBlock ∧ (v'.ownBlock = v.ownBlock ∨ v'.ownBlock = some w.heap.size) := by
  have hl1 : (intCells l2).length = m * i.size := by rw [hsize, intCells_length, hm, Nat.mul_one]
  have h1 := intCells_one l2
  have hlen : (l ++ l2).length = n + m := by rw [List.length_append, hown.1, hm]
  have grown : ∀ (old : Nat), old < n + m → ∀ (row : Option Nat),
      IntOwn (w.drew.alloc (.cells ((intCells l).toArray ++ (intCells l2).toArray ++ Builtin.zeroCells (Value.cells (.int .i64 0)) (grownCap w (n + m) old 3 - (n + m))) 3)) base
        (.slice (some ⟨w.heap.size, 0, none⟩) (n + m) (grownCap w (n + m) old 3)) (n + m) (l ++ l2) ∧
      w.grownBy (w.drew.alloc (.cells ((intCells l).toArray ++ (intCells l2).toArray ++ Builtin.zeroCells (Value.cells (.int .i64 0)) (grownCap w (n + m) old 3 - (n + m))) 3)) row := by
    intro old ho row
    have hge := grownCap_ge w (n + m) old 3
    have hcm : grownCap w (n + m) old 3 ≤ maxLen := grownCap_le_maxLen w (n + m) old _ (by simp only [maxLen]; omega)
    refine ⟨⟨hlen, .inr ⟨w.heap.size, _, (l ++ l2) ++ List.replicate (grownCap w (n + m) old 3 - (n + m)) 0, rfl, hbase, ?_, hge, hcm, ?_, ?_⟩⟩, ⟨rfl, rfl, rfl, by simp, fun k hk _ => heap_alloc_old w.drew _ hk⟩⟩
    · have e : ((intCells l).toArray ++ (intCells l2).toArray ++ Builtin.zeroCells (Value.cells (.int .i64 0)) (grownCap w (n + m) old 3 - (n + m))) = (intCells ((l ++ l2) ++ List.replicate (grownCap w (n + m) old 3 - (n + m)) 0)).toArray := by
        rw [intCells_append, intCells_append, ← zero_int]
        simp
      rw [e]
      exact heap_alloc_new w.drew _
    · rw [List.length_append, hlen, List.length_replicate]; omega
    · rw [← hlen]; exact List.take_left
  rcases hown.2 with ⟨rfl, rfl⟩ | ⟨g, cap, full, rfl, hbg, hg, hnc, hcm, hcl, htake⟩
  · have hx : l = [] := List.eq_nil_of_length_eq_zero hown.1
    subst hx
    have hr := run_append_nil (P := P) w t ty 3 i _ ht hi hz a m c (intCells l2) hl1 hnews (h0 rfl) (by omega) (by rw [hby]; omega)
    have hgr := grown 0 (by have := h0 rfl; omega) (Value.ownBlock (.slice none 0 0))
    simp only [Nat.zero_add, intCells, List.map_nil, Array.empty_append] at hgr hr ⊢
    exact ⟨_, _, hr, hgr.1, hgr.2, .inr rfl⟩
  · by_cases hroom : n + m ≤ cap
    · have hfit : n * i.size + (intCells l2).length ≤ (intCells full).toArray.size := by rw [hl1, hsize, List.size_toArray, intCells_length, hcl]; omega
      have hr := run_append_room (P := P) w t ty 3 i ht hi g n cap _ hg a m c (intCells l2) hl1 hnews h1 hroom hfit
      have e : ((intCells full).take (n * i.size) ++ intCells l2 ++ (intCells full).drop (n * i.size + (intCells l2).length)) = intCells ((l ++ l2) ++ full.drop (n + m)) := by
        rw [hl1, hsize, Nat.mul_one, Nat.mul_one, intCells_take, intCells_drop, htake, intCells_append, intCells_append]
      rw [List.toList_toArray, e] at hr
      refine ⟨_, _, hr, ⟨hlen, .inr ⟨g, cap, _, rfl, hbg, setRow_heap w g _ _ _ _ hg, hroom, hcm, ?_, ?_⟩⟩, ⟨rfl, rfl, rfl, by simp, fun k _ hk => setRow_other w g k _ (fun e => hk (by simp [Value.ownBlock, e]))⟩, .inl rfl⟩
      · rw [List.length_append, hlen, List.length_drop]; omega
      · rw [← hlen]; exact List.take_left
    · have holds : ∀ j u, (intCells l)[j]? = some u → w.cell? ((⟨g, 0, none⟩ : Addr).add j) = some u := fun j u hj => by
        rw [← htake, ← intCells_take, List.getElem?_take] at hj
        split at hj
        · obtain ⟨a', ha, hc⟩ := cells_heap hg (fun e => by rw [e] at hj; simp at hj)
          cases ha
          exact hc j u hj
        · cases hj
      have hr := run_append_grow (P := P) w t ty 3 i _ ht hi hz ⟨g, 0, none⟩ n cap (intCells l) (by rw [hsize, intCells_length, hown.1, Nat.mul_one]) holds a m c (intCells l2) hl1 hnews (by omega) (by omega) (growslice_fits (by omega) (by rw [hby]; omega))
      have hgr := grown cap (by omega) (Value.ownBlock (.slice (some ⟨g, 0, none⟩) n cap))
      exact ⟨_, _, hr, hgr.1, hgr.2, .inr rfl⟩
theorem wpList_append_int {P : Program} {ops : Array Oper} {rest : List Oper} {o : Oper} {a : Act} {Q : Exit → Act → World → Prop} {w : World} (hgd : o.guard = none) (s x : Operand) (t : TypeId)
    (ho : o.op = .call { callee := .builtin .append, args := #[s, x], argTypes := #[t, t] }) (base : Nat) (i : TypeInfo) (ht : P.underlying t = some (.slice 3)) (hi : P.info? 3 = some i) (hz : i.zero = some (.int .i64 0)) (hsize : i.size = 1) (hby : i.bytes = 8)
    (v : Value) (n : Nat) (l : List Int) (hs : a.eval s = v) (hown : IntOwn w base v n l) (ad : Addr) (m c : Nat) (l2 : List Int) (hm : l2.length = m) (h0 : v = .slice none 0 0 → 0 < m) (hx : a.eval x = .slice (some ad) m c) (hnews : ∀ j u, (intCells l2)[j]? = some u → w.cell? (ad.add j) = some u) (hn : n + m ≤ 1000000) (hbase : base ≤ w.heap.size)
    (h : ∀ v' w', IntOwn w' base v' (n + m) (l ++ l2) → w.grownBy w' v.ownBlock → (v'.ownBlock = v.ownBlock ∨ v'.ownBlock = some w.heap.size) → wpList P ops Q rest (a.put o.dst v') w') : wpList P ops Q (o :: rest) a w := by
  obtain ⟨v', w', hr, h2, h3, h4⟩ := run_append_int (P := P) (w := w) base t o.type i ht hi hz hsize hby v n l hown ad m c l2 hm h0 hnews hn hbase
  refine wpList_plain hgd fun _ hK => ?_
  unfold Oper.wp execOp
  simp only [ho, resolve, invoke, builtin, Sem.run_bind, Sem.run_pure, Result.andThen_ok, List.map_toArray, List.map_cons, List.map_nil, hs, hx, hr]
  exact hK _ _ (h v' w' h2 h3 h4)
end Go.Proofs.Ytjokaginolpbeaa

namespace Go.Proofs.Ytjokaginolpbeaa
open Go.RowKit

/-! wealdref12.Free: a chain's records. -/
theorem WldV.words {w : World} {X : WldK} {T C : Int} {A : Option Addr} {q c : Nat} {R : Int} {B C' : Option Addr} {n b n' d : Nat} (h : WldV w (.agg #[.int .i64 T, .int .i64 C, .slice A q c, .int .u64 R, .slice B n b, .slice C' n' d]) X) : WordsV w A q c X.ws := by
  obtain ⟨A2, q2, c2, B2, C2, b2, d2, e, hw, -⟩ := h
  simp only [Value.agg.injEq, Array.mk.injEq, List.cons.injEq, Value.slice.injEq, and_true] at e
  obtain ⟨-, -, ⟨rfl, rfl, rfl⟩, -⟩ := e
  exact hw
theorem nodup_len : ∀ (c : Nat) (l : List Int), l.Nodup → (∀ x ∈ l, 1 ≤ x ∧ x ≤ (c : Int)) → l.length ≤ c
  | 0, l, _, h => by
    cases l with
    | nil => simp
    | cons x l => have := h x (by simp); omega
  | c + 1, l, hd, h => by
    have h1 := nodup_len c (l.erase ((c : Int) + 1)) (hd.erase _) (fun x hx => by
      have hm := List.mem_of_mem_erase hx
      have hne : x ≠ (c : Int) + 1 := fun e => by subst e; exact (List.Nodup.not_mem_erase hd) hx
      have := h x hm
      omega)
    have h2 : l.length ≤ (l.erase ((c : Int) + 1)).length + 1 := by
      by_cases hm : ((c : Int) + 1) ∈ l
      · rw [List.length_erase_of_mem hm]; omega
      · rw [List.erase_of_not_mem hm]; omega
    omega
theorem PoolK.len {X : WldK} {t c : Nat} {pile : List Int} (h : PoolK X t c pile) : pile.length ≤ c := nodup_len c pile h.nodup h.chain.mem
end Go.Proofs.Ytjokaginolpbeaa

namespace Go.Proofs.Ytjokaginolpbeaa
open Go.RowKit

/-! What the laws of chapter 12 share. -/
theorem bytes_cell {w : World} {A : Option Addr} {n c : Nat} {l : List UInt8} (h : BytesV w A n c l) {i : Nat} (hi : i < n) : ∃ a z, A = some a ∧ w.cell? (a.add i) = some (.int .u8 (z : Nat)) ∧ z < 256 := by
  have hl : i < l.length := by rw [h.len]; exact hi
  obtain ⟨a, ha, hc⟩ := h.cells (fun e => by simp [bytesOf] at e; subst e; simp at hl)
  refine ⟨a, l[i].toNat, ha, hc i _ ?_, l[i].toNat_lt⟩
  simp [bytesOf, hl]
theorem WldV.word {w : World} {X : WldK} {T C : Int} {A : Option Addr} {q c : Nat} {R : Int} {B C' : Option Addr} {n b n' d : Nat} (h : WldV w (.agg #[.int .i64 T, .int .i64 C, .slice A q c, .int .u64 R, .slice B n b, .slice C' n' d]) X) (h2 : 2 ≤ X.ws.length) :
    ∃ a, A = some a ∧ q = X.ws.length ∧ ∀ i : Nat, i < q → w.cell? (a.add i) = some (.int .u64 (X.at (i : Int))) := by
  have hA := h.words
  have hne : wordsOf X.ws ≠ [] := fun e => by
    have := congrArg List.length e
    rw [wordsOf_length, List.length_nil] at this; omega
  obtain ⟨a, rfl, hc⟩ := hA.cells hne
  refine ⟨a, rfl, hA.len.symm, fun i hi => hc i _ ?_⟩
  unfold wordsOf WldK.at
  rw [List.getElem?_map]
  have hi2 : i < X.ws.length := by rw [hA.len]; exact hi
  simp [List.getElem?_eq_getElem hi2, List.getD_eq_getElem?_getD]
/-- what is free, and what is had: all records, each once -/
structure HK (N : Nat) (pile held : List Int) : Prop where
  nodup : (pile ++ held).Nodup
  rng : ∀ x ∈ held, 1 ≤ x ∧ x ≤ (N : Int)
  len : pile.length + held.length = N
theorem HK.new (N : Nat) : HK N (upFrom 1 N) [] := ⟨by rw [List.append_nil]; exact upFrom_nodup _ _, by simp, by
  have : ∀ n r, (upFrom r n).length = n := fun n => by
    induction n with
    | zero => intro r; rfl
    | succ n ih => intro r; simp [upFrom, ih]
  simp [this]⟩
theorem HK.pop {N : Nat} {x : Int} {l held : List Int} (h : HK N (x :: l) held) (hx : 1 ≤ x ∧ x ≤ (N : Int)) : HK N l (held ++ [x]) := by
  have hn : (l ++ (held ++ [x])).Nodup := by
    have h1 : (x :: (l ++ held)).Nodup := h.nodup
    rw [List.nodup_cons] at h1
    rw [← List.append_assoc, List.nodup_append]
    refine ⟨h1.2, by simp, fun a ha b hb => ?_⟩
    rw [List.mem_singleton] at hb
    intro e; subst e; subst hb; exact h1.1 ha
  refine ⟨hn, fun y hy => ?_, by have := h.len; simp at this ⊢; omega⟩
  rcases List.mem_append.1 hy with hy | hy
  · exact h.rng y hy
  · rw [List.mem_singleton.1 hy]; exact hx
theorem last_split {l : List Int} (h : 0 < l.length) : ∃ x, l = l.dropLast ++ [x] ∧ l[l.length - 1]? = some x := by
  have hne : l ≠ [] := fun e => by subst e; simp at h
  refine ⟨l.getLast hne, (List.dropLast_concat_getLast hne).symm, ?_⟩
  rw [List.getLast_eq_getElem, List.getElem?_eq_getElem]
end Go.Proofs.Ytjokaginolpbeaa

namespace Go.Proofs.Ytjokaginolpbeaa
open Go.RowKit

/-! The example of chapter 13. -/
set_option maxRecDepth 100000 in
set_option maxHeartbeats 4000000 in
theorem shown13_any (w : World) : Calls Try.prog 15 #[] w fun e w' => e = .returned (.bool true) ∧ Ext w w' := by
  have hb6 : ∀ (W : World), (Instr.build 24 #[(0, .int .i64 6)]).run Try.prog W = .ok (.agg #[.int .i64 6, .int .i64 0, .int .i64 0, .int .u64 0]) W := fun _ => by kernel_rfl
  have hb3 : ∀ (W : World), (Instr.build 24 #[(0, .int .i64 3)]).run Try.prog W = .ok (.agg #[.int .i64 3, .int .i64 0, .int .i64 0, .int .u64 0]) W := fun _ => by kernel_rfl
  have hb5 : ∀ (W : World), (Instr.build 24 #[(0, .int .i64 5), (1, .int .i64 1)]).run Try.prog W = .ok (.agg #[.int .i64 5, .int .i64 1, .int .i64 0, .int .u64 0]) W := fun _ => by kernel_rfl
  have hnew := ranew_yes 2 1 (by omega) (by omega) (by omega) w
  have cV := exc_V
  have cU := exc_U
  have cX := exc_X
  have cD := exc_D
  have cY := exc_Y
  have hyl := exY_len
  have hya := exY_at
  generalize exV.1 = X1 at *
  generalize exU.1 = X2 at *
  generalize exX.1 = X3 at *
  generalize exD.1 = X4 at *
  generalize exY.1 = X5 at *
  generalize newW 2 1 = X0 at *
  have HYL := Lib.hid hyl
  have HYA := Lib.hid hya
  clear hyl hya
  go_enter Try.func15, Try.ntmps15
  have hW : Ext w w := Ext.refl w
  go_wp2_with fail
  refine (hnew).mono ?_
  rintro e w_a ⟨v_, rfl, hVa, hx_⟩
  obtain ⟨aA, aq, ac, aB, ab, aC, ad, rfl⟩ := hVa.form6
  replace hW := hW.trans hx_
  clear hx_
  go_upto_region 2 with (fail)
  have hx_ : Ext w_a (w_a.alloc (.cells #[.int .i64 X0.T, .int .i64 X0.C, .slice aA aq ac, .int .u64 X0.R, .slice aB X0.n ab, .slice aC X0.n ad] 51)) := (Below.refl _ w_a).alloc (Nat.le_refl _) _
  have hba := heap_alloc_new w_a (.cells #[.int .i64 X0.T, .int .i64 X0.C, .slice aA aq ac, .int .u64 X0.R, .slice aB X0.n ab, .slice aC X0.n ad] 51)
  generalize w_a.alloc (.cells #[.int .i64 X0.T, .int .i64 X0.C, .slice aA aq ac, .int .u64 X0.R, .slice aB X0.n ab, .slice aC X0.n ad] 51) = W1 at *
  generalize w_a.heap.size = ga at *
  replace hVa := hVa.ext hx_
  replace hW := hW.trans hx_
  clear hx_
  have z0 : W1.cell? ⟨ga, 0, none⟩ = some (.int .i64 X0.T) := by simp [World.cell?, hba]
  have z1 : W1.cell? ⟨ga, 1, none⟩ = some (.int .i64 X0.C) := by simp [World.cell?, hba]
  have z2 : W1.cell? ⟨ga, 2, none⟩ = some (.slice aA aq ac) := by simp [World.cell?, hba]
  have z3 : W1.cell? ⟨ga, 3, none⟩ = some (.int .u64 X0.R) := by simp [World.cell?, hba]
  have z4 : W1.cell? ⟨ga, 4, none⟩ = some (.slice aB X0.n ab) := by simp [World.cell?, hba]
  have z5 : W1.cell? ⟨ga, 5, none⟩ = some (.slice aC X0.n ad) := by simp [World.cell?, hba]
  go_wp2_with fail
  refine (cV _ _ hVa).mono ?_
  rintro e w_b ⟨v_, rfl, hVb, hx_⟩
  obtain ⟨bA, bq, bc, bB, bb, bC, bd, rfl⟩ := hVb.form6
  clear z0 z1 z2 z3 z4 z5
  replace hba := heap_ext hba hx_
  replace hVa := hVa.ext hx_
  replace hW := hW.trans hx_
  clear hx_
  go_upto_region 3 with (fail)
  obtain ⟨hx_, hbb, hob⟩ := two_boxes7 w_b (.cells #[.int .i64 X1.T, .int .i64 X1.C, .slice bA bq bc, .int .u64 X1.R, .slice bB X1.n bb, .slice bC X1.n bd] 51) (.cells #[.int .i64 0, .bool false, .int .i64 1, .int .u64 0, .slice none 0 0] 37)
  generalize (w_b.alloc (.cells #[.int .i64 X1.T, .int .i64 X1.C, .slice bA bq bc, .int .u64 X1.R, .slice bB X1.n bb, .slice bC X1.n bd] 51)).alloc (.cells #[.int .i64 0, .bool false, .int .i64 1, .int .u64 0, .slice none 0 0] 37) = Wb at *
  generalize w_b.heap.size = gb at *
  replace hba := heap_ext hba hx_
  replace hVa := hVa.ext hx_
  replace hVb := hVb.ext hx_
  replace hW := hW.trans hx_
  clear hx_
  have z0 : Wb.cell? ⟨gb, 0, none⟩ = some (.int .i64 X1.T) := by simp [World.cell?, hbb]
  have z1 : Wb.cell? ⟨gb, 1, none⟩ = some (.int .i64 X1.C) := by simp [World.cell?, hbb]
  have z2 : Wb.cell? ⟨gb, 2, none⟩ = some (.slice bA bq bc) := by simp [World.cell?, hbb]
  have z3 : Wb.cell? ⟨gb, 3, none⟩ = some (.int .u64 X1.R) := by simp [World.cell?, hbb]
  have z4 : Wb.cell? ⟨gb, 4, none⟩ = some (.slice bB X1.n bb) := by simp [World.cell?, hbb]
  have z5 : Wb.cell? ⟨gb, 5, none⟩ = some (.slice bC X1.n bd) := by simp [World.cell?, hbb]
  go_wp2_with fail
  refine (cU _ _ hVb).mono ?_
  rintro e w_c ⟨v_, rfl, hVc, hx_⟩
  obtain ⟨cA, cq, cc, cB, cb, cC, cd, rfl⟩ := hVc.form6
  clear z0 z1 z2 z3 z4 z5
  replace hba := heap_ext hba hx_
  replace hbb := heap_ext hbb hx_
  replace hob := heap_ext hob hx_
  replace hVa := hVa.ext hx_
  replace hVb := hVb.ext hx_
  replace hW := hW.trans hx_
  clear hx_
  go_upto_region 4 with (fail)
  obtain ⟨hx_, hbc, hoc⟩ := two_boxes7 w_c (.cells #[.int .i64 X2.T, .int .i64 X2.C, .slice cA cq cc, .int .u64 X2.R, .slice cB X2.n cb, .slice cC X2.n cd] 51) (.cells #[.int .i64 0, .bool false, .int .i64 0, .int .u64 0, .slice none 0 0] 37)
  generalize (w_c.alloc (.cells #[.int .i64 X2.T, .int .i64 X2.C, .slice cA cq cc, .int .u64 X2.R, .slice cB X2.n cb, .slice cC X2.n cd] 51)).alloc (.cells #[.int .i64 0, .bool false, .int .i64 0, .int .u64 0, .slice none 0 0] 37) = Wc at *
  generalize w_c.heap.size = gc at *
  replace hba := heap_ext hba hx_
  replace hbb := heap_ext hbb hx_
  replace hob := heap_ext hob hx_
  replace hVa := hVa.ext hx_
  replace hVb := hVb.ext hx_
  replace hVc := hVc.ext hx_
  replace hW := hW.trans hx_
  clear hx_
  clear hbb hVb
  have z0 : Wc.cell? ⟨gc, 0, none⟩ = some (.int .i64 X2.T) := by simp [World.cell?, hbc]
  have z1 : Wc.cell? ⟨gc, 1, none⟩ = some (.int .i64 X2.C) := by simp [World.cell?, hbc]
  have z2 : Wc.cell? ⟨gc, 2, none⟩ = some (.slice cA cq cc) := by simp [World.cell?, hbc]
  have z3 : Wc.cell? ⟨gc, 3, none⟩ = some (.int .u64 X2.R) := by simp [World.cell?, hbc]
  have z4 : Wc.cell? ⟨gc, 4, none⟩ = some (.slice cB X2.n cb) := by simp [World.cell?, hbc]
  have z5 : Wc.cell? ⟨gc, 5, none⟩ = some (.slice cC X2.n cd) := by simp [World.cell?, hbc]
  go_wp2_with fail
  refine (cX _ _ hVc).mono ?_
  rintro e w_d ⟨v_, rfl, hVd, hx_⟩
  obtain ⟨dA, dq, dc, dB, db, dC, dd, rfl⟩ := hVd.form6
  clear z0 z1 z2 z3 z4 z5
  replace hba := heap_ext hba hx_
  replace hob := heap_ext hob hx_
  replace hbc := heap_ext hbc hx_
  replace hoc := heap_ext hoc hx_
  replace hVa := hVa.ext hx_
  replace hVc := hVc.ext hx_
  replace hW := hW.trans hx_
  clear hx_
  go_upto_region 5 with (fail)
  obtain ⟨hx_, hbd, hod⟩ := two_boxes7 w_d (.cells #[.int .i64 X3.T, .int .i64 X3.C, .slice dA dq dc, .int .u64 X3.R, .slice dB X3.n db, .slice dC X3.n dd] 51) (.cells #[.int .i64 0, .bool false, .int .i64 1, .int .u64 0, .slice none 0 0] 37)
  generalize (w_d.alloc (.cells #[.int .i64 X3.T, .int .i64 X3.C, .slice dA dq dc, .int .u64 X3.R, .slice dB X3.n db, .slice dC X3.n dd] 51)).alloc (.cells #[.int .i64 0, .bool false, .int .i64 1, .int .u64 0, .slice none 0 0] 37) = Wd at *
  generalize w_d.heap.size = gd at *
  replace hba := heap_ext hba hx_
  replace hob := heap_ext hob hx_
  replace hbc := heap_ext hbc hx_
  replace hoc := heap_ext hoc hx_
  replace hVa := hVa.ext hx_
  replace hVc := hVc.ext hx_
  replace hVd := hVd.ext hx_
  replace hW := hW.trans hx_
  clear hx_
  clear hbc hVc
  have z0 : Wd.cell? ⟨gd, 0, none⟩ = some (.int .i64 X3.T) := by simp [World.cell?, hbd]
  have z1 : Wd.cell? ⟨gd, 1, none⟩ = some (.int .i64 X3.C) := by simp [World.cell?, hbd]
  have z2 : Wd.cell? ⟨gd, 2, none⟩ = some (.slice dA dq dc) := by simp [World.cell?, hbd]
  have z3 : Wd.cell? ⟨gd, 3, none⟩ = some (.int .u64 X3.R) := by simp [World.cell?, hbd]
  have z4 : Wd.cell? ⟨gd, 4, none⟩ = some (.slice dB X3.n db) := by simp [World.cell?, hbd]
  have z5 : Wd.cell? ⟨gd, 5, none⟩ = some (.slice dC X3.n dd) := by simp [World.cell?, hbd]
  go_wp2_with fail
  refine (cD _ _ hVd).mono ?_
  rintro e w_e ⟨v_, rfl, hVe, hx_⟩
  obtain ⟨eA, eq, ec, eB, eb, eC, ed, rfl⟩ := hVe.form6
  clear z0 z1 z2 z3 z4 z5
  replace hba := heap_ext hba hx_
  replace hob := heap_ext hob hx_
  replace hoc := heap_ext hoc hx_
  replace hbd := heap_ext hbd hx_
  replace hod := heap_ext hod hx_
  replace hVa := hVa.ext hx_
  replace hVd := hVd.ext hx_
  replace hW := hW.trans hx_
  clear hx_
  go_upto_region 6 with (fail)
  obtain ⟨hx_, hbe, hoe⟩ := two_boxes7 w_e (.cells #[.int .i64 X4.T, .int .i64 X4.C, .slice eA eq ec, .int .u64 X4.R, .slice eB X4.n eb, .slice eC X4.n ed] 51) (.cells #[.int .i64 0, .bool false, .int .i64 0, .int .u64 0, .slice none 0 0] 37)
  generalize (w_e.alloc (.cells #[.int .i64 X4.T, .int .i64 X4.C, .slice eA eq ec, .int .u64 X4.R, .slice eB X4.n eb, .slice eC X4.n ed] 51)).alloc (.cells #[.int .i64 0, .bool false, .int .i64 0, .int .u64 0, .slice none 0 0] 37) = We at *
  generalize w_e.heap.size = ge at *
  replace hba := heap_ext hba hx_
  replace hob := heap_ext hob hx_
  replace hoc := heap_ext hoc hx_
  replace hbd := heap_ext hbd hx_
  replace hod := heap_ext hod hx_
  replace hVa := hVa.ext hx_
  replace hVd := hVd.ext hx_
  replace hVe := hVe.ext hx_
  replace hW := hW.trans hx_
  clear hx_
  clear hbd hVd
  have z0 : We.cell? ⟨ga, 0, none⟩ = some (.int .i64 X0.T) := by simp [World.cell?, hba]
  have z1 : We.cell? ⟨ga, 1, none⟩ = some (.int .i64 X0.C) := by simp [World.cell?, hba]
  have z2 : We.cell? ⟨ga, 2, none⟩ = some (.slice aA aq ac) := by simp [World.cell?, hba]
  have z3 : We.cell? ⟨ga, 3, none⟩ = some (.int .u64 X0.R) := by simp [World.cell?, hba]
  have z4 : We.cell? ⟨ga, 4, none⟩ = some (.slice aB X0.n ab) := by simp [World.cell?, hba]
  have z5 : We.cell? ⟨ga, 5, none⟩ = some (.slice aC X0.n ad) := by simp [World.cell?, hba]
  go_wp2_with fail
  refine (cY _ _ hVa).mono ?_
  rintro e w_f ⟨v_, rfl, hVf, hx_⟩
  obtain ⟨fA, fq, fc, fB, fb, fC, fd, rfl⟩ := hVf.form6
  clear z0 z1 z2 z3 z4 z5
  replace hba := heap_ext hba hx_
  replace hob := heap_ext hob hx_
  replace hoc := heap_ext hoc hx_
  replace hod := heap_ext hod hx_
  replace hbe := heap_ext hbe hx_
  replace hoe := heap_ext hoe hx_
  replace hVa := hVa.ext hx_
  replace hVe := hVe.ext hx_
  replace hW := hW.trans hx_
  clear hx_
  go_upto_region 7 with (fail)
  obtain ⟨hx_, hbf, hof⟩ := two_boxes7 w_f (.cells #[.int .i64 X5.T, .int .i64 X5.C, .slice fA fq fc, .int .u64 X5.R, .slice fB X5.n fb, .slice fC X5.n fd] 51) (.cells #[.int .i64 0, .bool false, .int .i64 0, .int .u64 0, .slice none 0 0] 37)
  generalize (w_f.alloc (.cells #[.int .i64 X5.T, .int .i64 X5.C, .slice fA fq fc, .int .u64 X5.R, .slice fB X5.n fb, .slice fC X5.n fd] 51)).alloc (.cells #[.int .i64 0, .bool false, .int .i64 0, .int .u64 0, .slice none 0 0] 37) = Wf at *
  generalize w_f.heap.size = gf at *
  replace hba := heap_ext hba hx_
  replace hob := heap_ext hob hx_
  replace hoc := heap_ext hoc hx_
  replace hod := heap_ext hod hx_
  replace hbe := heap_ext hbe hx_
  replace hoe := heap_ext hoe hx_
  replace hVa := hVa.ext hx_
  replace hVe := hVe.ext hx_
  replace hVf := hVf.ext hx_
  replace hW := hW.trans hx_
  clear hx_
  clear hba hVa
  have z0 : Wf.cell? ⟨gf, 0, none⟩ = some (.int .i64 X5.T) := by simp [World.cell?, hbf]
  have z1 : Wf.cell? ⟨gf, 1, none⟩ = some (.int .i64 X5.C) := by simp [World.cell?, hbf]
  have z2 : Wf.cell? ⟨gf, 2, none⟩ = some (.slice fA fq fc) := by simp [World.cell?, hbf]
  have z3 : Wf.cell? ⟨gf, 3, none⟩ = some (.int .u64 X5.R) := by simp [World.cell?, hbf]
  have z4 : Wf.cell? ⟨gf, 4, none⟩ = some (.slice fB X5.n fb) := by simp [World.cell?, hbf]
  have z5 : Wf.cell? ⟨gf, 5, none⟩ = some (.slice fC X5.n fd) := by simp [World.cell?, hbf]
  have b0 : Wf.cell? ⟨gb + 1, 0, none⟩ = some (.int .i64 0) := by simp [World.cell?, hob]
  have b1 : Wf.cell? ⟨gb + 1, 1, none⟩ = some (.bool false) := by simp [World.cell?, hob]
  have b2 : Wf.cell? ⟨gb + 1, 2, none⟩ = some (.int .i64 1) := by simp [World.cell?, hob]
  have b3 : Wf.cell? ⟨gb + 1, 3, none⟩ = some (.int .u64 0) := by simp [World.cell?, hob]
  have b4 : Wf.cell? ⟨gb + 1, 4, none⟩ = some (.slice none 0 0) := by simp [World.cell?, hob]
  have d0 : Wf.cell? ⟨gd + 1, 0, none⟩ = some (.int .i64 0) := by simp [World.cell?, hod]
  have d1 : Wf.cell? ⟨gd + 1, 1, none⟩ = some (.bool false) := by simp [World.cell?, hod]
  have d2 : Wf.cell? ⟨gd + 1, 2, none⟩ = some (.int .i64 1) := by simp [World.cell?, hod]
  have d3 : Wf.cell? ⟨gd + 1, 3, none⟩ = some (.int .u64 0) := by simp [World.cell?, hod]
  have d4 : Wf.cell? ⟨gd + 1, 4, none⟩ = some (.slice none 0 0) := by simp [World.cell?, hod]
  have e0 : Wf.cell? ⟨ge + 1, 0, none⟩ = some (.int .i64 0) := by simp [World.cell?, hoe]
  have e1 : Wf.cell? ⟨ge + 1, 1, none⟩ = some (.bool false) := by simp [World.cell?, hoe]
  have e2 : Wf.cell? ⟨ge + 1, 2, none⟩ = some (.int .i64 0) := by simp [World.cell?, hoe]
  have e3 : Wf.cell? ⟨ge + 1, 3, none⟩ = some (.int .u64 0) := by simp [World.cell?, hoe]
  have e4 : Wf.cell? ⟨ge + 1, 4, none⟩ = some (.slice none 0 0) := by simp [World.cell?, hoe]
  obtain ⟨aY, rfl, hqY, hcY⟩ := hVf.word (by rw [HYL.out]; omega)
  rw [HYL.out] at hqY
  have hc9 := hcY 9 (by omega)
  rw [show (((9 : Nat)) : Int) = 9 from rfl, HYA.out, show aY.add 9 = ⟨aY.block, aY.off + 9, none⟩ from rfl] at hc9
  have hfq : ¬ (fq : Int) < 10 := by omega
  have hfq9 : (9 : Int) < (fq : Int) := by omega
  clear hqY hcY
  go_wp2
  go_ret
  exact ⟨rfl, hW⟩
end Go.Proofs.Ytjokaginolpbeaa

namespace Go.Proofs.Ytjokaginolpbeaa
open Go.RowKit

/-! wealdlaw11.direct: a world in a place, and what makes accesses of it at once. -/
structure DirAt (w : World) (gP gM gw : Nat) (me : Int) (X : WldK) : Prop where
  np : gP ≠ gw
  nm : gM ≠ gw
  p : w.heap[gP]? = some (.cells #[.pointer (some ⟨gw, 0, none⟩)] 67 (0, 0))
  m : w.heap[gM]? = some (.cells #[.int .i64 me] 3 (0, 0))
  wld : ∃ (xA : Option Addr) (xq xc : Nat) (xB : Option Addr) (xb : Nat) (xC : Option Addr) (xd : Nat), w.heap[gw]? = some (.cells #[.int .i64 X.T, .int .i64 X.C, .slice xA xq xc, .int .u64 X.R, .slice xB X.n xb, .slice xC X.n xd] 51 (0, 0)) ∧ WldV w (.agg #[.int .i64 X.T, .int .i64 X.C, .slice xA xq xc, .int .u64 X.R, .slice xB X.n xb, .slice xC X.n xd]) X
theorem DirAt.ext {w w' : World} {gP gM gw : Nat} {me : Int} {X : WldK} (h : DirAt w gP gM gw me X) (hx : Ext w w') : DirAt w' gP gM gw me X :=
  ⟨h.np, h.nm, heap_ext h.p hx, heap_ext h.m hx, let ⟨xA, xq, xc, xB, xb, xC, xd, h1, h2⟩ := h.wld; ⟨xA, xq, xc, xB, xb, xC, xd, heap_ext h1 hx, h2.ext hx⟩⟩
theorem WldV.form {w : World} {v : Value} {X : WldK} (h : WldV w v X) : ∃ (A : Option Addr) (q c : Nat) (B : Option Addr) (b : Nat) (C : Option Addr) (d : Nat), v = .agg #[.int .i64 X.T, .int .i64 X.C, .slice A q c, .int .u64 X.R, .slice B X.n b, .slice C X.n d] := by
  obtain ⟨A, q, c, B, C, b, d, rfl, -, -⟩ := h
  exact ⟨A, q, c, B, b, C, d, rfl⟩
end Go.Proofs.Ytjokaginolpbeaa

namespace Go.Proofs.Ytjokaginolpbeaa
open Go.RowKit

set_option maxRecDepth 100000 in
set_option maxHeartbeats 4000000 in
theorem dir13_any (gP gM gw : Nat) (me : Int) (X : WldK) (av : Value) (A : AccK) (w : World) (h : DirAt w gP gM gw me X) (hA : AccV w av A) (hl2 : 2 ≤ X.ws.length) (hF : Fit X (useM A false)) :
    Calls Try.prog 122 #[av, .pointer (some ⟨gP, 0, none⟩), .pointer (some ⟨gM, 0, none⟩)] w fun e w' => ∃ r', e = .returned r' ∧ ResV w' r' (doR X A false) ∧ DirAt w' gP gM gw me (doK X me A false) ∧ ExtB gw w w' := by
  generalize hX1 : doK X me A false = X1
  generalize hR1 : doR X A false = R1
  have HX1 := Lib.hid hX1
  have HR1 := Lib.hid hR1
  have hl3 : 2 ≤ X1.ws.length := by
    rw [← hX1]; unfold doK
    split
    · split <;> exact hl2
    · split
      · split
        · rename_i h; simp only; rw [h]; exact hl2
        · exact hl2
      · simp only; rw [wordsK_length]; exact hl2
  clear hX1 hR1
  obtain ⟨np, nm, hp, hm, xA, xq, xc, xB, xb, xC, xd, hw, hV⟩ := h
  have hA_ := hA
  obtain ⟨D, m, cd, E, p, ce, rfl, -, -, -, -⟩ := hA_
  have hlP : gP < w.heap.size := (Array.getElem?_eq_some_iff.1 hp).1
  have hlM : gM < w.heap.size := (Array.getElem?_eq_some_iff.1 hm).1
  have hlw : gw < w.heap.size := (Array.getElem?_eq_some_iff.1 hw).1
  go_enter Try.func122, Try.ntmps122
  go_upto_region 1 with (fail)
  obtain ⟨hW, hG, hO⟩ := two_boxes7 w (.cells #[.int .i64 A.kind, .int .i64 A.cell, .int .u64 A.a, .int .u64 A.b, .slice D m cd, .slice E p ce] 33) (.cells #[.int .u64 0, .slice none 0 0, .bool false] 59)
  generalize (w.alloc (.cells #[.int .i64 A.kind, .int .i64 A.cell, .int .u64 A.a, .int .u64 A.b, .slice D m cd, .slice E p ce] 33)).alloc (.cells #[.int .u64 0, .slice none 0 0, .bool false] 59) = W at *
  have hX : ∀ wx, Ext W wx → wx.cell? ⟨gP, 0, none⟩ = some (.pointer (some ⟨gw, 0, none⟩)) ∧ wx.cell? ⟨gM, 0, none⟩ = some (.int .i64 me) ∧ wx.cell? ⟨gw, 0, none⟩ = some (.int .i64 X.T) ∧ wx.cell? ⟨gw, 1, none⟩ = some (.int .i64 X.C) ∧ wx.cell? ⟨gw, 2, none⟩ = some (.slice xA xq xc) ∧ wx.cell? ⟨gw, 3, none⟩ = some (.int .u64 X.R) ∧ wx.cell? ⟨gw, 4, none⟩ = some (.slice xB X.n xb) ∧ wx.cell? ⟨gw, 5, none⟩ = some (.slice xC X.n xd) ∧ wx.cell? ⟨w.heap.size, 0, none⟩ = some (.int .i64 A.kind) ∧ wx.cell? ⟨w.heap.size, 1, none⟩ = some (.int .i64 A.cell) ∧ wx.cell? ⟨w.heap.size, 2, none⟩ = some (.int .u64 A.a) ∧ wx.cell? ⟨w.heap.size, 3, none⟩ = some (.int .u64 A.b) ∧ wx.cell? ⟨w.heap.size, 4, none⟩ = some (.slice D m cd) ∧ wx.cell? ⟨w.heap.size, 5, none⟩ = some (.slice E p ce) := fun wx hx =>
    ⟨(hW.trans hx).cell (by simp [World.cell?, hp]), (hW.trans hx).cell (by simp [World.cell?, hm]), (hW.trans hx).cell (by simp [World.cell?, hw]), (hW.trans hx).cell (by simp [World.cell?, hw]), (hW.trans hx).cell (by simp [World.cell?, hw]), (hW.trans hx).cell (by simp [World.cell?, hw]), (hW.trans hx).cell (by simp [World.cell?, hw]), (hW.trans hx).cell (by simp [World.cell?, hw]), hx.cell (by simp [World.cell?, hG]), hx.cell (by simp [World.cell?, hG]), hx.cell (by simp [World.cell?, hG]), hx.cell (by simp [World.cell?, hG]), hx.cell (by simp [World.cell?, hG]), hx.cell (by simp [World.cell?, hG])⟩
  have HW := Lib.hid hW
  have HG := Lib.hid hG
  have HO := Lib.hid hO
  have Hp := Lib.hid hp
  have Hm := Lib.hid hm
  have Hw := Lib.hid hw
  clear hW hG hO hp hm hw
  refine' wp_region_late 8 [(6, 7)] ⟨((some 8, [], none) :: (some 9, [0], none) :: (some 10, [1], none) :: (some 11, [], none) :: (some 12, [], none) :: (some 13, [2, 3, 4], none) :: (some 7, [5], none) :: (some 14, [6], none) :: (some 15, [6], none) :: (some 5, [], none) :: (some 6, [], none) :: (none, [9, 7, 5, 0, 1, 2, 3, 4, 5, 6, 7, 9, 10], none) :: (none, [10, 8, 11, 0, 1, 2, 3, 4, 5, 6, 7, 8, 9, 10, 11], none) :: []), (0 :: 1 :: 3 :: 0 :: 0 :: 31 :: 63 :: 127 :: 127 :: 0 :: 0 :: 1791 :: 4095 :: []), (true :: true :: true :: true :: true :: false :: false :: false :: false :: true :: true :: []), [], 0⟩ 11 20 ((0, 8) :: (1, 9) :: (2, 10) :: (3, 11) :: (4, 12) :: (5, 13) :: (6, 7) :: (7, 14) :: (8, 15) :: (9, 5) :: (10, 6) :: []) ((0, 8) :: (1, 9) :: (2, 10) :: (3, 11) :: (4, 12) :: (5, 13) :: (6, 7) :: (7, 14) :: (8, 15) :: (9, 5) :: (10, 6) :: []) (.det _ :: .det _ :: .det _ :: .det _ :: .det _ :: Good.of (fun v w => ∃ v1 r1, v = .tuple #[v1, r1] ∧ WldV w v1 X1 ∧ ResV w r1 R1) (fun v w w' h hx => let ⟨v1, r1, e, h1, h2⟩ := h; ⟨v1, r1, e, h1.ext hx, h2.ext hx⟩) :: Good.of (fun v w => ∃ v1 r1, v = .tuple #[v1, r1] ∧ WldV w v1 X1 ∧ ResV w r1 R1) (fun v w w' h hx => let ⟨v1, r1, e, h1, h2⟩ := h; ⟨v1, r1, e, h1.ext hx, h2.ext hx⟩) :: Good.of (fun v w => WldV w v X1) (fun v w w' h hx => h.ext hx) :: Good.of (fun v w => ResV w v R1) (fun v w w' h hx => h.ext hx) :: Good.box 51 #[.int .i64 0, .int .i64 0, .slice none 0 0, .int .u64 0, .slice none 0 0, .slice none 0 0] W.heap.size :: Good.box 59 #[.int .u64 0, .slice none 0 0, .bool false] W.heap.size :: []) (by kernel_rfl) (by kernel_rfl) (by kernel_rfl) rfl (by kernel_rfl) (by kernel_rfl) rfl (by kernel_rfl) (by kernel_rfl) (by kernel_rfl) rfl (fun _ _ _ _ _ h => h) ?hlate ?hone ?hend
  case hlate =>
    intro V hV wx hx ρ hρ hs o ho
    obtain ⟨sn6, -⟩ := hs
    rw [place_at hV (k := 6) rfl] at sn6
    rw [place_at hV (k := 8) rfl]
    obtain rfl := Option.some.inj ho
    obtain ⟨v1, r1, e, h1, h2⟩ := sn6
    refine ⟨r1, fun w'' => ?_, h2⟩
    go_simp
  case hone =>
    intro CS frS VS hCS ha hV
    have qs1 := slot_val (t := 1) ha rfl
    simp only [List.getElem_toArray, List.getElem_cons_succ, List.getElem_cons_zero] at qs1
    have qs2 := slot_val (t := 2) ha rfl
    simp only [List.getElem_toArray, List.getElem_cons_succ, List.getElem_cons_zero] at qs2
    have qs3 := slot_val (t := 3) ha rfl
    simp only [List.getElem_toArray, List.getElem_cons_succ, List.getElem_cons_zero] at qs3
    have HCS := Lib.hid hCS
    have HVS := Lib.hid hV
    clear ha hCS hV
    -- 0: slot 8 := Op.load 67 t1
    refine sure_det (js := []) (ts := [1]) (gd := none) (place_at HVS.out (k := 0) rfl) (by rw [HCS.out]; kernel_rfl) ?_ ?_
    · intro wx hx ρ hρ hs hf
      have hρc := hρ.const
      have hρf := hρ.func
      obtain ⟨fx1, -⟩ := hf
      rw [qs1] at fx1
      clear hs
      clear HCS HVS qs1 qs2 qs3
      refine run_plain ?_
      obtain ⟨k0, k1, k2, k3, k4, k5, k6, k7, k8, k9, k10, k11, k12, k13⟩ := hX wx hx.drawn
      unfold runs
      go_simp
      exact detK.mk
    -- 1: slot 9 := Op.nilCheck t8
    refine sure_det (js := [(0, 8)]) (ts := []) (gd := none) (place_at HVS.out (k := 1) rfl) (by rw [HCS.out]; kernel_rfl) ?_ ?_
    · intro wx hx ρ hρ hs hf
      have hρc := hρ.const
      have hρf := hρ.func
      obtain ⟨sn0, -⟩ := hs
      rw [place_at HVS.out (k := 0) rfl] at sn0
      replace sn0 : ρ (.tmp 8) = _ := sn0
      clear hf
      clear HCS HVS qs1 qs2 qs3
      refine run_plain ?_
      unfold runs
      go_simp
      exact detK.mk
    -- 2: slot 10 := Op.load 51 t9
    refine sure_det (js := [(1, 9)]) (ts := []) (gd := none) (place_at HVS.out (k := 2) rfl) (by rw [HCS.out]; kernel_rfl) ?_ ?_
    · intro wx hx ρ hρ hs hf
      have hρc := hρ.const
      have hρf := hρ.func
      obtain ⟨sn1, -⟩ := hs
      rw [place_at HVS.out (k := 1) rfl] at sn1
      replace sn1 : ρ (.tmp 9) = _ := sn1
      clear hf
      clear HCS HVS qs1 qs2 qs3
      refine run_plain ?_
      obtain ⟨k0, k1, k2, k3, k4, k5, k6, k7, k8, k9, k10, k11, k12, k13⟩ := hX wx hx.drawn
      unfold runs
      go_simp
      exact detK.mk
    -- 3: slot 11 := Op.load 3 t2
    refine sure_det (js := []) (ts := [2]) (gd := none) (place_at HVS.out (k := 3) rfl) (by rw [HCS.out]; kernel_rfl) ?_ ?_
    · intro wx hx ρ hρ hs hf
      have hρc := hρ.const
      have hρf := hρ.func
      obtain ⟨fx2, -⟩ := hf
      rw [qs2] at fx2
      clear hs
      clear HCS HVS qs1 qs2 qs3
      refine run_plain ?_
      obtain ⟨k0, k1, k2, k3, k4, k5, k6, k7, k8, k9, k10, k11, k12, k13⟩ := hX wx hx.drawn
      unfold runs
      go_simp
      exact detK.mk
    -- 4: slot 12 := Op.load 33 t3
    refine sure_det (js := []) (ts := [3]) (gd := none) (place_at HVS.out (k := 4) rfl) (by rw [HCS.out]; kernel_rfl) ?_ ?_
    · intro wx hx ρ hρ hs hf
      have hρc := hρ.const
      have hρf := hρ.func
      obtain ⟨fx3, -⟩ := hf
      rw [qs3] at fx3
      clear hs
      clear HCS HVS qs1 qs2 qs3
      refine run_plain ?_
      obtain ⟨k0, k1, k2, k3, k4, k5, k6, k7, k8, k9, k10, k11, k12, k13⟩ := hX wx hx.drawn
      unfold runs
      go_simp
      exact detK.mk
    -- 5: slot 13 := Op.call { call ( 24), args := #[t10, t11, t12, (Value.bool false)], argTypes := #[51, 3, 3
    refine sure_op (js := [(2, 10), (3, 11), (4, 12)]) (ts := []) (gd := none) (place_at HVS.out (k := 5) rfl) (by rw [HCS.out]; kernel_rfl) ?_ ?_
    · intro wx hx ρ hρ hs hf
      have hρc := hρ.const
      have hρf := hρ.func
      obtain ⟨sn2, sn3, sn4, -⟩ := hs
      rw [place_at HVS.out (k := 2) rfl] at sn2
      replace sn2 : ρ (.tmp 10) = _ := sn2
      rw [place_at HVS.out (k := 3) rfl] at sn3
      replace sn3 : ρ (.tmp 11) = _ := sn3
      rw [place_at HVS.out (k := 4) rfl] at sn4
      replace sn4 : ρ (.tmp 12) = _ := sn4
      clear hf
      clear HCS HVS qs1 qs2 qs3
      refine run_plain ?_
      refine op_call rfl hρ Try.call24 (map_four sn2 sn3 sn4 (hρ.const _)) ?_
      refine Calls.mono (do_all _ _ X me A false _ ((hV.ext HW.out).ext hx.drawn) ((hA.ext HW.out).ext hx.drawn) hF) ?_
      rintro e w' ⟨v1, r1, rfl, h1, h2, hx5⟩
      rw [HX1.out] at h1
      rw [HR1.out] at h2
      exact ⟨_, rfl, hx5, v1, r1, rfl, h1, h2⟩
    -- 6: slot 7 := Op.move t13
    refine sure_op (js := [(5, 13)]) (ts := []) (gd := none) (place_at HVS.out (k := 6) rfl) (by rw [HCS.out]; kernel_rfl) ?_ ?_
    · intro wx hx ρ hρ hs hf
      have hρc := hρ.const
      have hρf := hρ.func
      obtain ⟨sn5, -⟩ := hs
      rw [place_at HVS.out (k := 5) rfl] at sn5
      replace sn5 : ∃ v1 r1, (ρ (.tmp 13)) = .tuple #[v1, r1] ∧ WldV wx v1 X1 ∧ ResV wx r1 R1 := sn5
      clear hf
      clear HCS HVS qs1 qs2 qs3
      refine run_plain ?_
      refine op_move rfl rfl ?_
      exact ⟨Ext.refl _, sn5⟩
    -- 7: slot 14 := Op.extract t7 0
    refine sure_op (js := [(6, 7)]) (ts := []) (gd := none) (place_at HVS.out (k := 7) rfl) (by rw [HCS.out]; kernel_rfl) ?_ ?_
    · intro wx hx ρ hρ hs hf
      have hρc := hρ.const
      have hρf := hρ.func
      obtain ⟨sn6, -⟩ := hs
      rw [place_at HVS.out (k := 6) rfl] at sn6
      replace sn6 : ∃ v1 r1, (ρ (.tmp 7)) = .tuple #[v1, r1] ∧ WldV wx v1 X1 ∧ ResV wx r1 R1 := sn6
      clear hf
      clear HCS HVS qs1 qs2 qs3
      refine run_plain ?_
      obtain ⟨v1, r1, e, h1, h2⟩ := sn6
      unfold runs
      go_simp
      exact ⟨Ext.refl _, h1⟩
    -- 8: slot 15 := Op.extract t7 1
    refine sure_op (js := [(6, 7)]) (ts := []) (gd := none) (place_at HVS.out (k := 8) rfl) (by rw [HCS.out]; kernel_rfl) ?_ ?_
    · intro wx hx ρ hρ hs hf
      have hρc := hρ.const
      have hρf := hρ.func
      obtain ⟨sn6, -⟩ := hs
      rw [place_at HVS.out (k := 6) rfl] at sn6
      replace sn6 : ∃ v1 r1, (ρ (.tmp 7)) = .tuple #[v1, r1] ∧ WldV wx v1 X1 ∧ ResV wx r1 R1 := sn6
      clear hf
      clear HCS HVS qs1 qs2 qs3
      refine run_plain ?_
      obtain ⟨v1, r1, e, h1, h2⟩ := sn6
      unfold runs
      go_simp
      exact ⟨Ext.refl _, h2⟩
    -- 9: slot 5 := Op.alloc 51
    refine sure_op (js := []) (ts := []) (gd := none) (place_at HVS.out (k := 9) rfl) (by rw [HCS.out]; kernel_rfl) ?_ ?_
    · intro wx hx ρ hρ hs hf
      have hρc := hρ.const
      have hρf := hρ.func
      clear hs
      clear hf
      clear HCS HVS qs1 qs2 qs3
      refine run_plain ?_
      refine op_alloc rfl (Try.zeroValue51 _) ?_
      exact ⟨Ext.refl _ |>.alloc (Nat.le_refl _) _, wx.heap.size, rfl, hx.size, heap_alloc_new wx _⟩
    -- 10: slot 6 := Op.alloc 59
    refine sure_op (js := []) (ts := []) (gd := none) (place_at HVS.out (k := 10) rfl) (by rw [HCS.out]; kernel_rfl) ?_ ?_
    · intro wx hx ρ hρ hs hf
      have hρc := hρ.const
      have hρf := hρ.func
      clear hs
      clear hf
      clear HCS HVS qs1 qs2 qs3
      refine run_plain ?_
      refine op_alloc rfl (Try.zeroValue59 _) ?_
      exact ⟨Ext.refl _ |>.alloc (Nat.le_refl _) _, wx.heap.size, rfl, hx.size, heap_alloc_new wx _⟩
    exact trivial
  case hend =>
    intro xs wx hx hg
    have gk0 : xs 0 = _ := goods_get hg (i := 0) (j := 0) (d := 8) rfl
    have gk1 : xs 1 = _ := goods_get hg (i := 1) (j := 1) (d := 9) rfl
    have gk2 : xs 2 = _ := goods_get hg (i := 2) (j := 2) (d := 10) rfl
    have gk3 : xs 3 = _ := goods_get hg (i := 3) (j := 3) (d := 11) rfl
    have gk4 : xs 4 = _ := goods_get hg (i := 4) (j := 4) (d := 12) rfl
    have gk5 : ∃ v1 r1, (xs 5) = .tuple #[v1, r1] ∧ WldV wx v1 X1 ∧ ResV wx r1 R1 := goods_get hg (i := 5) (j := 5) (d := 13) rfl
    have gk6 : ∃ v1 r1, (xs 6) = .tuple #[v1, r1] ∧ WldV wx v1 X1 ∧ ResV wx r1 R1 := goods_get hg (i := 6) (j := 6) (d := 7) rfl
    have gk7 : WldV wx (xs 7) X1 := goods_get hg (i := 7) (j := 7) (d := 14) rfl
    have gk8 : ResV wx (xs 8) R1 := goods_get hg (i := 8) (j := 8) (d := 15) rfl
    have gk9 : boxG 51 #[.int .i64 0, .int .i64 0, .slice none 0 0, .int .u64 0, .slice none 0 0, .slice none 0 0] W.heap.size (xs 9) wx := goods_get hg (i := 9) (j := 9) (d := 5) rfl
    have gk10 : boxG 59 #[.int .u64 0, .slice none 0 0, .bool false] W.heap.size (xs 10) wx := goods_get hg (i := 10) (j := 10) (d := 6) rfl
    clear hg
    simp only [putAll, gk0, gk1, gk2, gk3, gk4]
    clear gk0 gk1 gk2 gk3 gk4
    generalize xs 5 = vx5 at gk5 ⊢
    generalize xs 6 = vx6 at gk6 ⊢
    generalize xs 7 = vx7 at gk7 ⊢
    generalize xs 8 = vx8 at gk8 ⊢
    generalize xs 9 = vx9 at gk9 ⊢
    generalize xs 10 = vx10 at gk10 ⊢
    clear xs
    simp only [Act.put, List.setIfInBounds_toArray, List.set_cons_zero, List.set_cons_succ, List.drop_succ_cons, List.drop_zero]
    obtain ⟨gA, rfl, hgA, hcA⟩ := gk9
    obtain ⟨gB, rfl, hgB, hcB⟩ := gk10
    have hv1 := gk7
    have hr1 := gk8
    obtain ⟨zA, zq, zc, zB, zb, zC, zd, rfl⟩ := gk7.form
    clear gk7
    obtain ⟨yS, ys, yt, rfl, -⟩ := gk8
    clear gk5 gk6
    have hne : gA ≠ gB := fun e => by subst e; rw [hcA] at hcB; cases hcB
    have hE2 : Ext W (((((((((wx.setCell ⟨gA, 0, none⟩ (.int .i64 X1.T)).setCell ⟨gA, 1, none⟩ (.int .i64 X1.C)).setCell ⟨gA, 2, none⟩ (.slice zA zq zc)).setCell ⟨gA, 3, none⟩ (.int .u64 X1.R)).setCell ⟨gA, 4, none⟩ (.slice zB X1.n zb)).setCell ⟨gA, 5, none⟩ (.slice zC X1.n zd)).setCell ⟨gB, 0, none⟩ (.int .u64 R1.N)).setCell ⟨gB, 1, none⟩ (.slice yS ys yt)).setCell ⟨gB, 2, none⟩ (.bool R1.fail)) := setAll_ext (g := gB) (vs := [.int .u64 R1.N, .slice yS ys yt, .bool R1.fail]) (i := 0) (setAll_ext (g := gA) (vs := [.int .i64 X1.T, .int .i64 X1.C, .slice zA zq zc, .int .u64 X1.R, .slice zB X1.n zb, .slice zC X1.n zd]) (i := 0) hx.drawn hgA) hgB
    have hfA : (((((((((wx.setCell ⟨gA, 0, none⟩ (.int .i64 X1.T)).setCell ⟨gA, 1, none⟩ (.int .i64 X1.C)).setCell ⟨gA, 2, none⟩ (.slice zA zq zc)).setCell ⟨gA, 3, none⟩ (.int .u64 X1.R)).setCell ⟨gA, 4, none⟩ (.slice zB X1.n zb)).setCell ⟨gA, 5, none⟩ (.slice zC X1.n zd)).setCell ⟨gB, 0, none⟩ (.int .u64 R1.N)).setCell ⟨gB, 1, none⟩ (.slice yS ys yt)).setCell ⟨gB, 2, none⟩ (.bool R1.fail)).heap[gA]? = some (.cells #[.int .i64 X1.T, .int .i64 X1.C, .slice zA zq zc, .int .u64 X1.R, .slice zB X1.n zb, .slice zC X1.n zd] 51 (0, 0)) := (setAll_other (g := gB) hne [.int .u64 R1.N, .slice yS ys yt, .bool R1.fail] 0 (setAll gA 0 [.int .i64 X1.T, .int .i64 X1.C, .slice zA zq zc, .int .u64 X1.R, .slice zB X1.n zb, .slice zC X1.n zd] wx)).trans (setAll_all (vs := [.int .i64 X1.T, .int .i64 X1.C, .slice zA zq zc, .int .u64 X1.R, .slice zB X1.n zb, .slice zC X1.n zd]) hcA rfl)
    have hBm : (setAll gA 0 [.int .i64 X1.T, .int .i64 X1.C, .slice zA zq zc, .int .u64 X1.R, .slice zB X1.n zb, .slice zC X1.n zd] wx).heap[gB]? = _ := (setAll_other (g := gA) (Ne.symm hne) [.int .i64 X1.T, .int .i64 X1.C, .slice zA zq zc, .int .u64 X1.R, .slice zB X1.n zb, .slice zC X1.n zd] 0 wx).trans hcB
    have hfB : (((((((((wx.setCell ⟨gA, 0, none⟩ (.int .i64 X1.T)).setCell ⟨gA, 1, none⟩ (.int .i64 X1.C)).setCell ⟨gA, 2, none⟩ (.slice zA zq zc)).setCell ⟨gA, 3, none⟩ (.int .u64 X1.R)).setCell ⟨gA, 4, none⟩ (.slice zB X1.n zb)).setCell ⟨gA, 5, none⟩ (.slice zC X1.n zd)).setCell ⟨gB, 0, none⟩ (.int .u64 R1.N)).setCell ⟨gB, 1, none⟩ (.slice yS ys yt)).setCell ⟨gB, 2, none⟩ (.bool R1.fail)).heap[gB]? = some (.cells #[.int .u64 R1.N, .slice yS ys yt, .bool R1.fail] 59 (0, 0)) := setAll_all (vs := [.int .u64 R1.N, .slice yS ys yt, .bool R1.fail]) hBm rfl
    have hv2 := (hv1.but hl3 (But.all gA [.int .i64 X1.T, .int .i64 X1.C, .slice zA zq zc, .int .u64 X1.R, .slice zB X1.n zb, .slice zC X1.n zd] 0 wx) hcA rfl).but hl3 (But.all gB [.int .u64 R1.N, .slice yS ys yt, .bool R1.fail] 0 _) hBm rfl
    change WldV (((((((((wx.setCell ⟨gA, 0, none⟩ (.int .i64 X1.T)).setCell ⟨gA, 1, none⟩ (.int .i64 X1.C)).setCell ⟨gA, 2, none⟩ (.slice zA zq zc)).setCell ⟨gA, 3, none⟩ (.int .u64 X1.R)).setCell ⟨gA, 4, none⟩ (.slice zB X1.n zb)).setCell ⟨gA, 5, none⟩ (.slice zC X1.n zd)).setCell ⟨gB, 0, none⟩ (.int .u64 R1.N)).setCell ⟨gB, 1, none⟩ (.slice yS ys yt)).setCell ⟨gB, 2, none⟩ (.bool R1.fail)) _ _ at hv2
    have hr2 := (hr1.but (But.all gA [.int .i64 X1.T, .int .i64 X1.C, .slice zA zq zc, .int .u64 X1.R, .slice zB X1.n zb, .slice zC X1.n zd] 0 wx) hcA rfl).but (But.all gB [.int .u64 R1.N, .slice yS ys yt, .bool R1.fail] 0 _) hBm rfl
    change ResV (((((((((wx.setCell ⟨gA, 0, none⟩ (.int .i64 X1.T)).setCell ⟨gA, 1, none⟩ (.int .i64 X1.C)).setCell ⟨gA, 2, none⟩ (.slice zA zq zc)).setCell ⟨gA, 3, none⟩ (.int .u64 X1.R)).setCell ⟨gA, 4, none⟩ (.slice zB X1.n zb)).setCell ⟨gA, 5, none⟩ (.slice zC X1.n zd)).setCell ⟨gB, 0, none⟩ (.int .u64 R1.N)).setCell ⟨gB, 1, none⟩ (.slice yS ys yt)).setCell ⟨gB, 2, none⟩ (.bool R1.fail)) _ _ at hr2
    have a0 : wx.cell? ⟨gA, 0, none⟩ = some (.int .i64 0) := by simp [World.cell?, hcA]
    have af0 : wx.frozen? ⟨gA, 0, none⟩ = false := by simp [World.frozen?, hcA]
    have a1 : wx.cell? ⟨gA, 1, none⟩ = some (.int .i64 0) := by simp [World.cell?, hcA]
    have af1 : wx.frozen? ⟨gA, 1, none⟩ = false := by simp [World.frozen?, hcA]
    have a2 : wx.cell? ⟨gA, 2, none⟩ = some (.slice none 0 0) := by simp [World.cell?, hcA]
    have af2 : wx.frozen? ⟨gA, 2, none⟩ = false := by simp [World.frozen?, hcA]
    have a3 : wx.cell? ⟨gA, 3, none⟩ = some (.int .u64 0) := by simp [World.cell?, hcA]
    have af3 : wx.frozen? ⟨gA, 3, none⟩ = false := by simp [World.frozen?, hcA]
    have a4 : wx.cell? ⟨gA, 4, none⟩ = some (.slice none 0 0) := by simp [World.cell?, hcA]
    have af4 : wx.frozen? ⟨gA, 4, none⟩ = false := by simp [World.frozen?, hcA]
    have a5 : wx.cell? ⟨gA, 5, none⟩ = some (.slice none 0 0) := by simp [World.cell?, hcA]
    have af5 : wx.frozen? ⟨gA, 5, none⟩ = false := by simp [World.frozen?, hcA]
    have b0 : wx.cell? ⟨gB, 0, none⟩ = some (.int .u64 0) := by simp [World.cell?, hcB]
    have bf0 : wx.frozen? ⟨gB, 0, none⟩ = false := by simp [World.frozen?, hcB]
    have b1 : wx.cell? ⟨gB, 1, none⟩ = some (.slice none 0 0) := by simp [World.cell?, hcB]
    have bf1 : wx.frozen? ⟨gB, 1, none⟩ = false := by simp [World.frozen?, hcB]
    have b2 : wx.cell? ⟨gB, 2, none⟩ = some (.bool false) := by simp [World.cell?, hcB]
    have bf2 : wx.frozen? ⟨gB, 2, none⟩ = false := by simp [World.frozen?, hcB]
    go_upto_region 2 with (fail)
    generalize (((((((((wx.setCell ⟨gA, 0, none⟩ (.int .i64 X1.T)).setCell ⟨gA, 1, none⟩ (.int .i64 X1.C)).setCell ⟨gA, 2, none⟩ (.slice zA zq zc)).setCell ⟨gA, 3, none⟩ (.int .u64 X1.R)).setCell ⟨gA, 4, none⟩ (.slice zB X1.n zb)).setCell ⟨gA, 5, none⟩ (.slice zC X1.n zd)).setCell ⟨gB, 0, none⟩ (.int .u64 R1.N)).setCell ⟨gB, 1, none⟩ (.slice yS ys yt)).setCell ⟨gB, 2, none⟩ (.bool R1.fail)) = wf at *
    clear a0 af0 a1 af1 a2 af2 a3 af3 a4 af4 a5 af5 b0 bf0 b1 bf1 b2 bf2 hBm hcA hcB hv1 hr1 hx hX
    have hWf := HW.out.trans hE2
    have hG := heap_ext HG.out hE2
    have hO := heap_ext HO.out hE2
    have hp := heap_ext Hp.out hWf
    have hm := heap_ext Hm.out hWf
    have hw := heap_ext Hw.out hWf
    have hWs : w.heap.size + 1 < W.heap.size := (Array.getElem?_eq_some_iff.1 HO.out).1
    have np' : ¬ gw = gP := fun e => np e.symm
    have nO : ¬ gw = w.heap.size + 1 := by omega
    have nB : ¬ gw = gB := by omega
    have nA : ¬ gw = gA := by omega
    have nOB : ¬ w.heap.size + 1 = gB := by omega
    have b0' : wf.cell? ⟨gP, 0, none⟩ = some (.pointer (some ⟨gw, 0, none⟩)) := by simp [World.cell?, hp]
    have a0 : wf.cell? ⟨gA, 0, none⟩ = some (.int .i64 X1.T) := by simp [World.cell?, hfA]
    have a1 : wf.cell? ⟨gA, 1, none⟩ = some (.int .i64 X1.C) := by simp [World.cell?, hfA]
    have a2 : wf.cell? ⟨gA, 2, none⟩ = some (.slice zA zq zc) := by simp [World.cell?, hfA]
    have a3 : wf.cell? ⟨gA, 3, none⟩ = some (.int .u64 X1.R) := by simp [World.cell?, hfA]
    have a4 : wf.cell? ⟨gA, 4, none⟩ = some (.slice zB X1.n zb) := by simp [World.cell?, hfA]
    have a5 : wf.cell? ⟨gA, 5, none⟩ = some (.slice zC X1.n zd) := by simp [World.cell?, hfA]
    have e0 : wf.cell? ⟨gw, 0, none⟩ = some (.int .i64 X.T) := by simp [World.cell?, hw]
    have ef0 : wf.frozen? ⟨gw, 0, none⟩ = false := by simp [World.frozen?, hw]
    have e1 : wf.cell? ⟨gw, 1, none⟩ = some (.int .i64 X.C) := by simp [World.cell?, hw]
    have ef1 : wf.frozen? ⟨gw, 1, none⟩ = false := by simp [World.frozen?, hw]
    have e2 : wf.cell? ⟨gw, 2, none⟩ = some (.slice xA xq xc) := by simp [World.cell?, hw]
    have ef2 : wf.frozen? ⟨gw, 2, none⟩ = false := by simp [World.frozen?, hw]
    have e3 : wf.cell? ⟨gw, 3, none⟩ = some (.int .u64 X.R) := by simp [World.cell?, hw]
    have ef3 : wf.frozen? ⟨gw, 3, none⟩ = false := by simp [World.frozen?, hw]
    have e4 : wf.cell? ⟨gw, 4, none⟩ = some (.slice xB X.n xb) := by simp [World.cell?, hw]
    have ef4 : wf.frozen? ⟨gw, 4, none⟩ = false := by simp [World.frozen?, hw]
    have e5 : wf.cell? ⟨gw, 5, none⟩ = some (.slice xC X.n xd) := by simp [World.cell?, hw]
    have ef5 : wf.frozen? ⟨gw, 5, none⟩ = false := by simp [World.frozen?, hw]
    go_upto_region 3 with (fail)
    have hB3 : ExtB gw w ((((((wf.setCell ⟨gw, 0, none⟩ (.int .i64 X1.T)).setCell ⟨gw, 1, none⟩ (.int .i64 X1.C)).setCell ⟨gw, 2, none⟩ (.slice zA zq zc)).setCell ⟨gw, 3, none⟩ (.int .u64 X1.R)).setCell ⟨gw, 4, none⟩ (.slice zB X1.n zb)).setCell ⟨gw, 5, none⟩ (.slice zC X1.n zd)) := ExtB.setAll (ExtB.of hWf) [.int .i64 X1.T, .int .i64 X1.C, .slice zA zq zc, .int .u64 X1.R, .slice zB X1.n zb, .slice zC X1.n zd] (.inl rfl) 0
    have hp3 : ((((((wf.setCell ⟨gw, 0, none⟩ (.int .i64 X1.T)).setCell ⟨gw, 1, none⟩ (.int .i64 X1.C)).setCell ⟨gw, 2, none⟩ (.slice zA zq zc)).setCell ⟨gw, 3, none⟩ (.int .u64 X1.R)).setCell ⟨gw, 4, none⟩ (.slice zB X1.n zb)).setCell ⟨gw, 5, none⟩ (.slice zC X1.n zd)).heap[gP]? = _ := (setAll_other (g := gw) np [.int .i64 X1.T, .int .i64 X1.C, .slice zA zq zc, .int .u64 X1.R, .slice zB X1.n zb, .slice zC X1.n zd] 0 wf).trans hp
    have hm3 : ((((((wf.setCell ⟨gw, 0, none⟩ (.int .i64 X1.T)).setCell ⟨gw, 1, none⟩ (.int .i64 X1.C)).setCell ⟨gw, 2, none⟩ (.slice zA zq zc)).setCell ⟨gw, 3, none⟩ (.int .u64 X1.R)).setCell ⟨gw, 4, none⟩ (.slice zB X1.n zb)).setCell ⟨gw, 5, none⟩ (.slice zC X1.n zd)).heap[gM]? = _ := (setAll_other (g := gw) nm [.int .i64 X1.T, .int .i64 X1.C, .slice zA zq zc, .int .u64 X1.R, .slice zB X1.n zb, .slice zC X1.n zd] 0 wf).trans hm
    have hw3 : ((((((wf.setCell ⟨gw, 0, none⟩ (.int .i64 X1.T)).setCell ⟨gw, 1, none⟩ (.int .i64 X1.C)).setCell ⟨gw, 2, none⟩ (.slice zA zq zc)).setCell ⟨gw, 3, none⟩ (.int .u64 X1.R)).setCell ⟨gw, 4, none⟩ (.slice zB X1.n zb)).setCell ⟨gw, 5, none⟩ (.slice zC X1.n zd)).heap[gw]? = some (.cells #[.int .i64 X1.T, .int .i64 X1.C, .slice zA zq zc, .int .u64 X1.R, .slice zB X1.n zb, .slice zC X1.n zd] 51 (0, 0)) := setAll_all (vs := [.int .i64 X1.T, .int .i64 X1.C, .slice zA zq zc, .int .u64 X1.R, .slice zB X1.n zb, .slice zC X1.n zd]) hw rfl
    have hO3 : ((((((wf.setCell ⟨gw, 0, none⟩ (.int .i64 X1.T)).setCell ⟨gw, 1, none⟩ (.int .i64 X1.C)).setCell ⟨gw, 2, none⟩ (.slice zA zq zc)).setCell ⟨gw, 3, none⟩ (.int .u64 X1.R)).setCell ⟨gw, 4, none⟩ (.slice zB X1.n zb)).setCell ⟨gw, 5, none⟩ (.slice zC X1.n zd)).heap[w.heap.size + 1]? = _ := (setAll_other (g := gw) (fun e => nO e.symm) [.int .i64 X1.T, .int .i64 X1.C, .slice zA zq zc, .int .u64 X1.R, .slice zB X1.n zb, .slice zC X1.n zd] 0 wf).trans hO
    have hfB3 : ((((((wf.setCell ⟨gw, 0, none⟩ (.int .i64 X1.T)).setCell ⟨gw, 1, none⟩ (.int .i64 X1.C)).setCell ⟨gw, 2, none⟩ (.slice zA zq zc)).setCell ⟨gw, 3, none⟩ (.int .u64 X1.R)).setCell ⟨gw, 4, none⟩ (.slice zB X1.n zb)).setCell ⟨gw, 5, none⟩ (.slice zC X1.n zd)).heap[gB]? = _ := (setAll_other (g := gw) (fun e => nB e.symm) [.int .i64 X1.T, .int .i64 X1.C, .slice zA zq zc, .int .u64 X1.R, .slice zB X1.n zb, .slice zC X1.n zd] 0 wf).trans hfB
    have hv3 := hv2.but hl3 (But.all gw [.int .i64 X1.T, .int .i64 X1.C, .slice zA zq zc, .int .u64 X1.R, .slice zB X1.n zb, .slice zC X1.n zd] 0 wf) hw rfl
    change WldV ((((((wf.setCell ⟨gw, 0, none⟩ (.int .i64 X1.T)).setCell ⟨gw, 1, none⟩ (.int .i64 X1.C)).setCell ⟨gw, 2, none⟩ (.slice zA zq zc)).setCell ⟨gw, 3, none⟩ (.int .u64 X1.R)).setCell ⟨gw, 4, none⟩ (.slice zB X1.n zb)).setCell ⟨gw, 5, none⟩ (.slice zC X1.n zd)) _ _ at hv3
    have hr3 := hr2.but (But.all gw [.int .i64 X1.T, .int .i64 X1.C, .slice zA zq zc, .int .u64 X1.R, .slice zB X1.n zb, .slice zC X1.n zd] 0 wf) hw rfl
    change ResV ((((((wf.setCell ⟨gw, 0, none⟩ (.int .i64 X1.T)).setCell ⟨gw, 1, none⟩ (.int .i64 X1.C)).setCell ⟨gw, 2, none⟩ (.slice zA zq zc)).setCell ⟨gw, 3, none⟩ (.int .u64 X1.R)).setCell ⟨gw, 4, none⟩ (.slice zB X1.n zb)).setCell ⟨gw, 5, none⟩ (.slice zC X1.n zd)) _ _ at hr3
    generalize ((((((wf.setCell ⟨gw, 0, none⟩ (.int .i64 X1.T)).setCell ⟨gw, 1, none⟩ (.int .i64 X1.C)).setCell ⟨gw, 2, none⟩ (.slice zA zq zc)).setCell ⟨gw, 3, none⟩ (.int .u64 X1.R)).setCell ⟨gw, 4, none⟩ (.slice zB X1.n zb)).setCell ⟨gw, 5, none⟩ (.slice zC X1.n zd)) = wg at *
    clear b0' a0 a1 a2 a3 a4 a5 e0 e1 e2 e3 e4 e5 ef0 ef1 ef2 ef3 ef4 ef5 hfA hfB hw hp hm hO hG hv2 hr2 hV
    have b0 : wg.cell? ⟨gB, 0, none⟩ = some (.int .u64 R1.N) := by simp [World.cell?, hfB3]
    have b1 : wg.cell? ⟨gB, 1, none⟩ = some (.slice yS ys yt) := by simp [World.cell?, hfB3]
    have b2 : wg.cell? ⟨gB, 2, none⟩ = some (.bool R1.fail) := by simp [World.cell?, hfB3]
    have o0 : wg.cell? ⟨w.heap.size + 1, 0, none⟩ = some (.int .u64 0) := by simp [World.cell?, hO3]
    have of0 : wg.frozen? ⟨w.heap.size + 1, 0, none⟩ = false := by simp [World.frozen?, hO3]
    have o1 : wg.cell? ⟨w.heap.size + 1, 1, none⟩ = some (.slice none 0 0) := by simp [World.cell?, hO3]
    have of1 : wg.frozen? ⟨w.heap.size + 1, 1, none⟩ = false := by simp [World.frozen?, hO3]
    have o2 : wg.cell? ⟨w.heap.size + 1, 2, none⟩ = some (.bool false) := by simp [World.cell?, hO3]
    have of2 : wg.frozen? ⟨w.heap.size + 1, 2, none⟩ = false := by simp [World.frozen?, hO3]
    have hB4 : ExtB gw w (((wg.setCell ⟨w.heap.size + 1, 0, none⟩ (.int .u64 R1.N)).setCell ⟨w.heap.size + 1, 1, none⟩ (.slice yS ys yt)).setCell ⟨w.heap.size + 1, 2, none⟩ (.bool R1.fail)) := ExtB.setAll hB3 [.int .u64 R1.N, .slice yS ys yt, .bool R1.fail] (.inr (by omega)) 0
    have hp4 : (((wg.setCell ⟨w.heap.size + 1, 0, none⟩ (.int .u64 R1.N)).setCell ⟨w.heap.size + 1, 1, none⟩ (.slice yS ys yt)).setCell ⟨w.heap.size + 1, 2, none⟩ (.bool R1.fail)).heap[gP]? = _ := (setAll_other (g := w.heap.size + 1) (by omega) [.int .u64 R1.N, .slice yS ys yt, .bool R1.fail] 0 wg).trans hp3
    have hm4 : (((wg.setCell ⟨w.heap.size + 1, 0, none⟩ (.int .u64 R1.N)).setCell ⟨w.heap.size + 1, 1, none⟩ (.slice yS ys yt)).setCell ⟨w.heap.size + 1, 2, none⟩ (.bool R1.fail)).heap[gM]? = _ := (setAll_other (g := w.heap.size + 1) (by omega) [.int .u64 R1.N, .slice yS ys yt, .bool R1.fail] 0 wg).trans hm3
    have hw4 : (((wg.setCell ⟨w.heap.size + 1, 0, none⟩ (.int .u64 R1.N)).setCell ⟨w.heap.size + 1, 1, none⟩ (.slice yS ys yt)).setCell ⟨w.heap.size + 1, 2, none⟩ (.bool R1.fail)).heap[gw]? = _ := (setAll_other (g := w.heap.size + 1) nO [.int .u64 R1.N, .slice yS ys yt, .bool R1.fail] 0 wg).trans hw3
    have hO4 : (((wg.setCell ⟨w.heap.size + 1, 0, none⟩ (.int .u64 R1.N)).setCell ⟨w.heap.size + 1, 1, none⟩ (.slice yS ys yt)).setCell ⟨w.heap.size + 1, 2, none⟩ (.bool R1.fail)).heap[w.heap.size + 1]? = some (.cells #[.int .u64 R1.N, .slice yS ys yt, .bool R1.fail] 59 (0, 0)) := setAll_all (vs := [.int .u64 R1.N, .slice yS ys yt, .bool R1.fail]) hO3 rfl
    have hv4 := hv3.but hl3 (But.all (w.heap.size + 1) [.int .u64 R1.N, .slice yS ys yt, .bool R1.fail] 0 wg) hO3 rfl
    change WldV (((wg.setCell ⟨w.heap.size + 1, 0, none⟩ (.int .u64 R1.N)).setCell ⟨w.heap.size + 1, 1, none⟩ (.slice yS ys yt)).setCell ⟨w.heap.size + 1, 2, none⟩ (.bool R1.fail)) _ _ at hv4
    have hr4 := hr3.but (But.all (w.heap.size + 1) [.int .u64 R1.N, .slice yS ys yt, .bool R1.fail] 0 wg) hO3 rfl
    change ResV (((wg.setCell ⟨w.heap.size + 1, 0, none⟩ (.int .u64 R1.N)).setCell ⟨w.heap.size + 1, 1, none⟩ (.slice yS ys yt)).setCell ⟨w.heap.size + 1, 2, none⟩ (.bool R1.fail)) _ _ at hr4
    clear hO3 hw3 hp3 hm3 hfB3
    go_wp2
    generalize (((wg.setCell ⟨w.heap.size + 1, 0, none⟩ (.int .u64 R1.N)).setCell ⟨w.heap.size + 1, 1, none⟩ (.slice yS ys yt)).setCell ⟨w.heap.size + 1, 2, none⟩ (.bool R1.fail)) = wh at *
    clear o0 o1 o2 of0 of1 of2 b0 b1 b2
    have o0 : wh.cell? ⟨w.heap.size + 1, 0, none⟩ = some (.int .u64 R1.N) := by simp [World.cell?, hO4]
    have o1 : wh.cell? ⟨w.heap.size + 1, 1, none⟩ = some (.slice yS ys yt) := by simp [World.cell?, hO4]
    have o2 : wh.cell? ⟨w.heap.size + 1, 2, none⟩ = some (.bool R1.fail) := by simp [World.cell?, hO4]
    refine bodyPost_ret (v := .agg #[.int .u64 R1.N, .slice yS ys yt, .bool R1.fail]) (by simp [results, Try.results122, go_sem, o0, o1, o2]) rfl ⟨_, rfl, hr4, ⟨np, nm, hp4, hm4, _, _, _, _, _, _, _, hw4, hv4⟩, hB4⟩
end Go.Proofs.Ytjokaginolpbeaa

namespace Go.Proofs.Ytjokaginolpbeaa
open Go.RowKit

end Go.Proofs.Ytjokaginolpbeaa

namespace Go.Proofs.Ytjokaginolpbeaa
open Go.RowKit

/-! wealdlaw13.direct as what a program is handed. -/
def dirV13 (gP gM : Nat) : Value := doF 122 (.pointer (some ⟨gP, 0, none⟩)) (.pointer (some ⟨gM, 0, none⟩))
set_option maxRecDepth 100000 in
theorem direct13_any (gw : Nat) (me : Int) (X : WldK) (xA : Option Addr) (xq xc : Nat) (xB : Option Addr) (xb : Nat) (xC : Option Addr) (xd : Nat) (w : World) (h : w.heap[gw]? = some (.cells #[.int .i64 X.T, .int .i64 X.C, .slice xA xq xc, .int .u64 X.R, .slice xB X.n xb, .slice xC X.n xd] 51 (0, 0))) (hV : WldV w (.agg #[.int .i64 X.T, .int .i64 X.C, .slice xA xq xc, .int .u64 X.R, .slice xB X.n xb, .slice xC X.n xd]) X) :
    Calls Try.prog 26 #[.pointer (some ⟨gw, 0, none⟩), .int .i64 me] w fun e w' => ∃ gP gM, e = .returned (dirV13 gP gM) ∧ DirAt w' gP gM gw me X ∧ w.heap.size ≤ gP ∧ w.heap.size ≤ gM ∧ gP < w'.heap.size ∧ gM < w'.heap.size ∧ Ext w w' := by
  have hmf : ∀ (fn : Fn) (first cap : Array Value) (w : World), (Instr.makeFunc fn first cap).run Try.prog w = .ok (.func fn first cap) w := fun _ _ _ _ => rfl
  have hl : gw < w.heap.size := (Array.getElem?_eq_some_iff.1 h).1
  go_enter Try.func26, Try.ntmps26
  go_upto_region 1 with (fail)
  obtain ⟨hW, h0, h1⟩ := two_boxes7 w (.cells #[.pointer (some ⟨gw, 0, none⟩)] 67) (.cells #[.int .i64 me] 3)
  generalize (w.alloc (.cells #[.pointer (some ⟨gw, 0, none⟩)] 67)).alloc (.cells #[.int .i64 me] 3) = W at *
  have hD : DirAt W w.heap.size (w.heap.size + 1) gw me X ∧ w.heap.size < W.heap.size ∧ w.heap.size + 1 < W.heap.size := ⟨⟨by omega, by omega, h0, h1, _, _, _, _, _, _, _, heap_ext h hW, hV.ext hW⟩, (Array.getElem?_eq_some_iff.1 h0).1, (Array.getElem?_eq_some_iff.1 h1).1⟩
  clear h0 h1
  go_wp2
  go_ret
  exact ⟨_, _, rfl, hD.1, Nat.le_refl _, Nat.le_succ _, hD.2.1, hD.2.2, hW⟩
theorem dir13_ok (gP gM gw : Nat) (me : Int) : DoOk (stX me) 122 (.pointer (some ⟨gP, 0, none⟩)) (.pointer (some ⟨gM, 0, none⟩)) gw (fun X w => DirAt w gP gM gw me X ∧ WOk X) where
  ext s w w' h hx := ⟨h.1.ext hx, h.2⟩
  call := Try.call122
  run s w x h hx := by
    obtain ⟨h1, h2, h3, h4⟩ := h.2.step me hx
    refine (dir13_any gP gM gw me s (.agg x.acc.cells) x.K w h.1 ⟨none, 0, 0, none, 0, 0, rfl, bytes_nil _, words_nil _, hx.2.2.1, hx.2.2.2⟩ h.2.2.2 (by rw [useM_word (A := x.K) hx.2.1]; exact h.2.1)).mono ?_
    rintro e w' ⟨r', rfl, hR, hD, hB⟩
    obtain ⟨B, q, c, rfl, -⟩ := hR
    exact ⟨⟨_, rfl, B, q, c, _, rfl⟩, h2, ⟨hD, h1⟩, hB⟩
theorem DirAt.lt {w : World} {gP gM gw : Nat} {me : Int} {X : WldK} (h : DirAt w gP gM gw me X) : gP < w.heap.size ∧ gM < w.heap.size ∧ gw < w.heap.size :=
  ⟨(Array.getElem?_eq_some_iff.1 h.p).1, (Array.getElem?_eq_some_iff.1 h.m).1, let ⟨_, _, _, _, _, _, _, h1, _⟩ := h.wld; (Array.getElem?_eq_some_iff.1 h1).1⟩
/-- a box may turn that is none of its own -/
theorem DirAt.but {w w' : World} {gP gM gw : Nat} {me : Int} {X : WldK} (h : DirAt w gP gM gw me X) {g : Nat} {cs : List Value} {T : TypeId} {fr : Nat × Nat} (hb : But g w w') (hg : w.heap[g]? = some (.cells cs.toArray T fr)) (hx : boxish cs = true) (hl : 2 ≤ X.ws.length) (n1 : gP ≠ g) (n2 : gM ≠ g) (n3 : gw ≠ g) : DirAt w' gP gM gw me X :=
  ⟨h.np, h.nm, hb _ _ n1 h.p, hb _ _ n2 h.m, let ⟨xA, xq, xc, xB, xb, xC, xd, h1, h2⟩ := h.wld; ⟨xA, xq, xc, xB, xb, xC, xd, hb _ _ n3 h1, h2.but hl hb hg hx⟩⟩
theorem DirAt.grownI {w w' : World} {base : Nat} {v : Value} {n : Nat} {l : List Int} (ho : IntOwn w base v n l) (hg : w.grownBy w' v.ownBlock) {gP gM gw : Nat} {me : Int} {X : WldK} (h : DirAt w gP gM gw me X) (hl : 2 ≤ X.ws.length) (n1 : gP < base) (n2 : gM < base) (n3 : gw < base) : DirAt w' gP gM gw me X :=
  ⟨h.np, h.nm, grownI_heap ho hg (ho.low n1) h.p, grownI_heap ho hg (ho.low n2) h.m, let ⟨xA, xq, xc, xB, xb, xC, xd, h1, h2⟩ := h.wld; ⟨xA, xq, xc, xB, xb, xC, xd, grownI_heap ho hg (ho.low n3) h1, WldV.grownI ho hg h2 hl⟩⟩
/-- what stands in no box of worlds outlasts an access made at once -/
theorem WldV.extB {w w' : World} {g : Nat} {v : Value} {X : WldK} (h : WldV w v X) (hx : ExtB g w w') {cs : List Value} {T : TypeId} {fr : Nat × Nat} (hg : w.heap[g]? = some (.cells cs.toArray T fr)) (hb : boxish cs = true) (hl : 2 ≤ X.ws.length) : WldV w' v X :=
  h.but hl (fun k o hk ho => hx.heap ho hk) hg hb
theorem BoxW.extB {w w' : World} {g gw : Nat} {X : WldK} (h : BoxW w gw X) (hx : ExtB g w w') {cs : List Value} {T : TypeId} {fr : Nat × Nat} (hg : w.heap[g]? = some (.cells cs.toArray T fr)) (hb : boxish cs = true) (hl : 2 ≤ X.ws.length) (hn : gw ≠ g) : BoxW w' gw X := by
  obtain ⟨cs2, h1, h2⟩ := h
  exact ⟨cs2, hx.heap h1 hn, h2.extB hx hg hb hl⟩
/-! What is no row of cells may turn. -/
theorem cell_away {w w' : World} {l : Nat} {o : Obj} {p : Addr} {v : Value} (hc : w.cell? p = some v) (hl : w.heap[l]? = some o) (ho : o.isCells = false) (hx : ExtB l w w') : w'.cell? p = some v := by
  have hn : p.block ≠ l := fun e => by
    unfold World.cell? at hc
    rw [e, hl] at hc
    cases o <;> simp_all [Obj.isCells]
  obtain ⟨q, hq⟩ : ∃ q, w.heap[p.block]? = some q := by
    unfold World.cell? at hc
    cases h : w.heap[p.block]? with
    | none => rw [h] at hc; simp at hc
    | some q => exact ⟨q, rfl⟩
  have h2 := hx.heap hq hn
  unfold World.cell? at hc ⊢
  rw [hq] at hc
  rw [h2]; exact hc
theorem Cells.away {w w' : World} {l : Nat} {o : Obj} {A : Option Addr} {xs : List Value} (h : Cells w A xs) (hl : w.heap[l]? = some o) (ho : o.isCells = false) (hx : ExtB l w w') : Cells w' A xs := fun hn => by
  obtain ⟨a, ha, hc⟩ := h hn
  exact ⟨a, ha, fun j u hj => cell_away (hc j u hj) hl ho hx⟩
theorem WordsV.away {w w' : World} {l : Nat} {o : Obj} {A : Option Addr} {n c : Nat} {xs : List Int} (h : WordsV w A n c xs) (hl : w.heap[l]? = some o) (ho : o.isCells = false) (hx : ExtB l w w') : WordsV w' A n c xs := ⟨h.len, h.le, h.cap, h.nil, h.cells.away hl ho hx, h.rng⟩
theorem BytesV.away {w w' : World} {l : Nat} {o : Obj} {A : Option Addr} {n c : Nat} {xs : List UInt8} (h : BytesV w A n c xs) (hl : w.heap[l]? = some o) (ho : o.isCells = false) (hx : ExtB l w w') : BytesV w' A n c xs := ⟨h.len, h.le, h.cap, h.nil, h.cells.away hl ho hx⟩
theorem RowV.away {w w' : World} {l : Nat} {o : Obj} {A : Option Addr} {n c : Nat} {xs : List St} (h : RowV w A n c xs) (hl : w.heap[l]? = some o) (ho : o.isCells = false) (hx : ExtB l w w') : RowV w' A n c xs := ⟨h.len, h.le, h.cap, h.nil, h.cells.away hl ho hx, fun s hs => BytesV.away (h.ok s hs) hl ho hx⟩
theorem WldV.away {w w' : World} {l : Nat} {o : Obj} {v : Value} {X : WldK} (h : WldV w v X) (hl : w.heap[l]? = some o) (ho : o.isCells = false) (hx : ExtB l w w') : WldV w' v X := by
  obtain ⟨A, q, c, A0, A1, c0, c1, e, h1, l0, l1, ⟨B0, B1, d0, d1, e2, r0, r1⟩, k0, k1⟩ := h
  exact ⟨A, q, c, A0, A1, c0, c1, e, h1.away hl ho hx, l0, l1, ⟨B0, B1, d0, d1, e2, r0.away hl ho hx, r1.away hl ho hx⟩, k0, k1⟩
theorem dir13_away (gP gM gw : Nat) (me : Int) : DoAway (fun X w => DirAt w gP gM gw me X ∧ WOk X) := by
  intro X w w' l o ⟨hD, hX⟩ hl ho hx
  refine ⟨?_, hX⟩
  obtain ⟨np, nm, hp, hm, xA, xq, xc, xB, xb, xC, xd, h1, h2⟩ := hD
  have nP : gP ≠ l := fun e => by subst e; rw [hp] at hl; cases hl; cases ho
  have nM : gM ≠ l := fun e => by subst e; rw [hm] at hl; cases hl; cases ho
  have nW : gw ≠ l := fun e => by subst e; rw [h1] at hl; cases hl; cases ho
  exact ⟨np, nm, hx.heap hp nP, hx.heap hm nM, xA, xq, xc, xB, xb, xC, xd, hx.heap h1 nW, h2.away hl ho hx⟩
end Go.Proofs.Ytjokaginolpbeaa

namespace Go.Proofs.Ytjokaginolpbeaa
open Go.RowKit

/-! What operations on epochs do, stepping alone: an epoch, what is free, three limbos, pins. -/
structure EpS where
  e : Nat
  pile : List Int
  L : Nat → List Int
  P : Nat → Int
def EpS.all (S : EpS) : List Int := S.pile ++ (S.L 0 ++ (S.L 1 ++ S.L 2))
structure EpK (X : WldK) (t c : Nat) (S : EpS) : Prop where
  pool : PoolK X t c S.pile
  lim : ∀ i : Nat, i < 3 → ChainW X t c (S.L i) (firstF (X.at (4 + (i : Int))))
  nodup : S.all.Nodup
  ep : X.at 3 = (S.e : Int)
  pins : ∀ i : Nat, i < t → X.at (8 + (i : Int)) = S.P i
theorem EpK.dim {X : WldK} {t c : Nat} {S : EpS} (h : EpK X t c S) : Dim X t c := h.pool.dim
theorem at_ge (X : WldK) {t c : Nat} (h : Dim X t c) : 15 + t ≤ X.ws.length + 7 ∧ 8 + t ≤ X.ws.length := by rw [h.len]; unfold memL; omega
theorem Goes.cast {α : Type} {me : Int} {T : PT α} {X X' : WldK} {j j' : Nat} {a : α} (h : Goes me T X j a X') (e : j = j') : Goes me T X j' a X' := e ▸ h
/-! Draining a chain. -/
def drainX (X : WldK) (t : Nat) (l : List Int) : WldK := l.foldl (fun X x => pushX X t x) X
theorem drain_cons (X : WldK) (t : Nat) (x : Int) (l : List Int) : drainX X t (x :: l) = drainX (pushX X t x) t l := rfl
theorem pushX_at {X : WldK} {t : Nat} {x j : Int} (h1 : j.toNat ≠ 1) (h2 : j.toNat ≠ (linkI t x).toNat) : (pushX X t x).at j = X.at j := by
  unfold pushX
  rw [at_put_other (by omega), at_put_other h2]
theorem drain_at {t : Nat} {j : Int} (h1 : j.toNat ≠ 1) : ∀ (l : List Int) (X : WldK), (∀ x ∈ l, j.toNat ≠ (linkI t x).toNat) → (drainX X t l).at j = X.at j
  | [], X, _ => rfl
  | x :: l, X, h => by rw [drain_cons, drain_at h1 l _ (fun y hy => h y (by simp [hy])), pushX_at h1 (h x (by simp))]
theorem chain_drain {me : Int} {t c f : Nat} : ∀ (l : List Int) (X : WldK) (r : Int) (pile : List Int) (g : Nat), PoolK X t c pile → ChainW X t c l r → (l ++ pile).Nodup → l.length < g →
    Goes me (chainT t (f + 1) g r) X (4 * l.length) 0 (drainX X t l) ∧ PoolK (drainX X t l) t c (l.reverse ++ pile)
  | [], X, r, pile, g, hp, hc, _, hg => by
    obtain ⟨g, rfl⟩ : ∃ m, g = m + 1 := ⟨g - 1, by simp at hg; omega⟩
    have h0 : r = 0 := hc
    refine ⟨?_, hp⟩
    unfold chainT
    rw [if_pos h0]
    exact Goes.ret _ _
  | x :: l, X, r, pile, g, hp, hc, hn, hg => by
    obtain ⟨g, rfl⟩ : ∃ m, g = m + 1 := ⟨g - 1, by simp at hg; omega⟩
    obtain ⟨hr, h1, h2, h3⟩ := hc
    have hl := link_in (t := t) h1 h2
    have hq := link_pos t h1
    rw [List.cons_append, List.nodup_cons] at hn
    have hxp : x ∉ pile := fun hm => hn.1 (by simp [hm])
    have hxl : x ∉ l := fun hm => hn.1 (by simp [hm])
    have hpp := push_pool hp h1 h2 hxp
    have hcl : ChainW (pushX X t x) t c l (firstF (X.at (linkI t x))) := h3.keep fun y hy hy1 => by
      have hy0 := link_pos t hy1
      exact pushX_at (by omega) (link_ne hy1 h1 (fun e => hxl (e ▸ hy)))
    have hnd : (l ++ x :: pile).Nodup := by
      rw [List.nodup_append] at hn ⊢
      refine ⟨hn.2.1, List.nodup_cons.2 ⟨hxp, hn.2.2.1⟩, fun a ha b hb => ?_⟩
      rcases List.mem_cons.1 hb with rfl | hb
      · intro e; subst e; exact hxl ha
      · exact hn.2.2.2 a ha b hb
    obtain ⟨ih1, ih2⟩ := chain_drain (me := me) (f := f) l (pushX X t x) _ (x :: pile) g hpp.1 hcl hnd (by simp at hg; omega)
    rw [drain_cons]
    refine ⟨?_, by simpa using ih2⟩
    unfold chainT
    rw [if_neg (by omega), hr]
    have hsum : 4 * (x :: l).length = (3 + 4 * l.length) + 1 := by simp; omega
    rw [hsum]
    refine goes_load (by omega) (by rw [hp.dim.len]; omega) ?_
    exact Goes.bind (push_goes hp.dim h1 h2 me f) ih1
/-! Apart: what lies in one row lies in no other. -/
theorem EpS.apart {S : EpS} (h : S.all.Nodup) : S.pile.Nodup ∧ (∀ i, i < 3 → (S.L i).Nodup) ∧ (∀ i, i < 3 → ∀ x ∈ S.L i, x ∉ S.pile) ∧ (∀ i, i < 3 → ∀ j, j < 3 → i ≠ j → ∀ x ∈ S.L i, x ∉ S.L j) := by
  unfold EpS.all at h
  simp only [List.nodup_append] at h
  obtain ⟨h1, ⟨h2, ⟨h3, h4, h5⟩, h6⟩, h7⟩ := h
  refine ⟨h1, ?_, ?_, ?_⟩
  · intro i hi
    obtain rfl | rfl | rfl : i = 0 ∨ i = 1 ∨ i = 2 := by omega
    · exact h2
    · exact h3
    · exact h4
  · intro i hi x hx hp
    obtain rfl | rfl | rfl : i = 0 ∨ i = 1 ∨ i = 2 := by omega
    · exact h7 x hp x (by simp [hx]) rfl
    · exact h7 x hp x (by simp [hx]) rfl
    · exact h7 x hp x (by simp [hx]) rfl
  · intro i hi j hj hij x hx hy
    obtain rfl | rfl | rfl : i = 0 ∨ i = 1 ∨ i = 2 := by omega
    · obtain rfl | rfl : j = 1 ∨ j = 2 := by omega
      · exact h6 x hx x (by simp [hy]) rfl
      · exact h6 x hx x (by simp [hy]) rfl
    · obtain rfl | rfl : j = 0 ∨ j = 2 := by omega
      · exact h6 x hy x (by simp [hx]) rfl
      · exact h5 x hx x hy rfl
    · obtain rfl | rfl : j = 0 ∨ j = 1 := by omega
      · exact h6 x hy x (by simp [hx]) rfl
      · exact h5 x hy x hx rfl
theorem EpS.mem_all {S : EpS} {x : Int} : x ∈ S.all ↔ x ∈ S.pile ∨ x ∈ S.L 0 ∨ x ∈ S.L 1 ∨ x ∈ S.L 2 := by
  unfold EpS.all; simp
theorem EpS.in_all {S : EpS} {i : Nat} (hi : i < 3) {x : Int} (h : x ∈ S.L i) : x ∈ S.all := by
  rw [EpS.mem_all]
  obtain rfl | rfl | rfl : i = 0 ∨ i = 1 ∨ i = 2 := by omega
  · simp [h]
  · simp [h]
  · simp [h]
theorem EpK.rng {X : WldK} {t c : Nat} {S : EpS} (h : EpK X t c S) : ∀ x ∈ S.all, 1 ≤ x ∧ x ≤ (c : Int) := fun x hx => by
  rcases EpS.mem_all.1 hx with hx | hx | hx | hx
  · exact h.pool.chain.mem x hx
  · exact (h.lim 0 (by omega)).mem x hx
  · exact (h.lim 1 (by omega)).mem x hx
  · exact (h.lim 2 (by omega)).mem x hx
theorem EpK.lim_len {X : WldK} {t c : Nat} {S : EpS} (h : EpK X t c S) {i : Nat} (hi : i < 3) : (S.L i).length ≤ c := nodup_len c _ ((EpS.apart h.nodup).2.1 i hi) (h.lim i hi).mem
/-! The operations. -/
def EpS.pin (S : EpS) (me : Nat) (v : Int) : EpS := { S with P := fun i => if i = me then v else S.P i }
def EpS.retire (S : EpS) (x : Int) : EpS := { S with L := fun i => if i = S.e % 3 then x :: S.L i else S.L i }
def EpS.drain (S : EpS) : EpS := ⟨S.e + 1, (S.L ((S.e + 2) % 3)).reverse ++ S.pile, fun i => if i = (S.e + 2) % 3 then [] else S.L i, S.P⟩
def EpS.okP (S : EpS) (t : Nat) : Prop := ∀ i, i < t → S.P i = 0 ∨ S.P i = (S.e : Int) + 1
instance (S : EpS) (t : Nat) : Decidable (S.okP t) := inferInstanceAs (Decidable (∀ i, i < t → S.P i = 0 ∨ S.P i = (S.e : Int) + 1))
def EpS.adv (S : EpS) (t : Nat) : EpS := if S.okP t then S.drain else S
def EpS.pop (S : EpS) : EpS := { S with pile := S.pile.tail }
def allocS (t me : Nat) : Nat → EpS → Int → EpS × Int
  | 0, S, r => (S, r)
  | k + 1, S, r => if r = 0 then allocS t me k (((S.pin me ((S.e : Int) + 1)).adv t).pop) (((S.pin me ((S.e : Int) + 1)).adv t).pile.headD 0) else (S, r)
def EpS.alloc (S : EpS) (t me : Nat) : EpS × Int := allocS t me 3 S.pop (S.pile.headD 0)
theorem inc_nat {e : Nat} (h : e ≤ 1000000) : incW (e : Int) = (e : Int) + 1 := by unfold incW; omega
/-- a cell that no chain of the operations reads: pins, the epoch -/
theorem pin_goes {X : WldK} {t c : Nat} {S : EpS} (h : EpK X t c S) (he : S.e ≤ 1000000) {me : Nat} (hme : me < t) : ∃ X', Goes (me : Int) (pinT me) X 2 0 X' ∧ EpK X' t c (S.pin me ((S.e : Int) + 1)) := by
  obtain ⟨-, hlen⟩ := at_ge X h.dim
  refine ⟨X.put (8 + (me : Int)) ((S.e : Int) + 1), ?_, ?_⟩
  · refine goes_load (by omega) (by omega) ?_
    rw [h.ep, inc_nat he]
    refine goes_store (by omega) (by omega) ?_
    exact Goes.ret _ _
  · have hu : U64 ((S.e : Int) + 1) := by unfold U64; omega
    have hk : ∀ l r, ChainW X t c l r → ChainW (X.put (8 + (me : Int)) ((S.e : Int) + 1)) t c l r := fun l r hc => hc.keep fun y _ hy => at_put_other (by have := link_pos t hy; omega)
    refine ⟨⟨h.dim.put hu, ?_, h.pool.nodup⟩, ?_, h.nodup, ?_, ?_⟩
    · rw [at_put_other (by omega)]; exact hk _ _ h.pool.chain
    · intro i hi
      rw [at_put_other (by omega)]; exact hk _ _ (h.lim i hi)
    · rw [at_put_other (by omega)]; exact h.ep
    · intro i hi
      by_cases e : i = me
      · subst e
        rw [at_put_same (by omega)]; simp [EpS.pin]
      · rw [at_put_other (by omega), h.pins i hi]; simp [EpS.pin, e]
theorem unpin_goes {X : WldK} {t c : Nat} {S : EpS} (h : EpK X t c S) {me : Nat} (hme : me < t) : ∃ X', Goes (me : Int) (unpinT me) X 1 0 X' ∧ EpK X' t c (S.pin me 0) := by
  obtain ⟨-, hlen⟩ := at_ge X h.dim
  refine ⟨X.put (8 + (me : Int)) 0, ?_, ?_⟩
  · refine goes_store (by omega) (by omega) ?_
    exact Goes.ret _ _
  · have hk : ∀ l r, ChainW X t c l r → ChainW (X.put (8 + (me : Int)) 0) t c l r := fun l r hc => hc.keep fun y _ hy => at_put_other (by have := link_pos t hy; omega)
    refine ⟨⟨h.dim.put u64_zero, ?_, h.pool.nodup⟩, ?_, h.nodup, ?_, ?_⟩
    · rw [at_put_other (by omega)]; exact hk _ _ h.pool.chain
    · intro i hi
      rw [at_put_other (by omega)]; exact hk _ _ (h.lim i hi)
    · rw [at_put_other (by omega)]; exact h.ep
    · intro i hi
      by_cases e : i = me
      · subst e
        rw [at_put_same (by omega)]; simp [EpS.pin]
      · rw [at_put_other (by omega), h.pins i hi]; simp [EpS.pin, e]
theorem retire_all {S : EpS} {x : Int} : (S.retire x).all.Perm (x :: S.all) := by
  rw [List.perm_iff_count]
  intro a
  have hlt : S.e % 3 < 3 := Nat.mod_lt _ (by omega)
  unfold EpS.all EpS.retire
  obtain h | h | h : S.e % 3 = 0 ∨ S.e % 3 = 1 ∨ S.e % 3 = 2 := by omega
  all_goals
    simp only [h, List.count_append, List.count_cons]
    simp [List.count_cons]
    omega
theorem drain_all (S : EpS) : S.drain.all.Perm S.all := by
  rw [List.perm_iff_count]
  intro a
  unfold EpS.all EpS.drain
  obtain h | h | h : (S.e + 2) % 3 = 0 ∨ (S.e + 2) % 3 = 1 ∨ (S.e + 2) % 3 = 2 := by omega
  all_goals
    simp only [h, List.count_append, List.count_reverse]
    simp
    omega
theorem limbo_nat (e : Nat) : limboI (e : Int) = 4 + ((e % 3 : Nat) : Int) := by unfold limboI; omega
theorem firstF_small {x : Int} (h0 : 0 ≤ x) (h1 : x < 1048576) : firstF x = x := by unfold firstF; omega
theorem retire_goes {X : WldK} {t c : Nat} {S : EpS} (h : EpK X t c S) (me : Int) {x : Int} (h1 : 1 ≤ x) (h2 : x ≤ (c : Int)) (hx : x ∉ S.all) (f : Nat) : ∃ X', Goes me (retireT t x (f + 1)) X 4 0 X' ∧ EpK X' t c (S.retire x) := by
  obtain ⟨-, hlen⟩ := at_ge X h.dim
  have hl := link_in (t := t) h1 h2
  have hp := link_pos t h1
  have hc2 := h.dim.c2
  have hlt : S.e % 3 < 3 := Nat.mod_lt _ (by omega)
  have hall := retire_all (S := S) (x := x)
  have hap := EpS.apart h.nodup
  obtain ⟨d, hd⟩ : ∃ d, d = S.e % 3 := ⟨_, rfl⟩
  refine ⟨(X.put (linkI t x) (X.at (4 + (d : Int)))).put (4 + (d : Int)) x, ?_, ?_⟩
  · refine goes_load (by omega) (by omega) ?_
    rw [h.ep, limbo_nat, ← hd]
    refine goes_load (by omega) (by omega) ?_
    refine goes_store (by omega) (by rw [h.dim.len]; omega) ?_
    refine goes_cas (by omega) (by rw [put_len]; omega) (at_put_other (by omega)) ?_
    rw [if_pos rfl]
    exact Goes.ret _ _
  · have hu : U64 x := by unfold U64; omega
    have hne : ∀ l r, ChainW X t c l r → x ∉ l → ChainW ((X.put (linkI t x) (X.at (4 + (d : Int)))).put (4 + (d : Int)) x) t c l r := fun l r hc hxl => hc.keep fun y hy hy1 => by
      have := link_pos t hy1
      rw [at_put_other (by omega), at_put_other (link_ne hy1 h1 (fun e => hxl (e ▸ hy)))]
    have hxa : ∀ i, i < 3 → x ∉ S.L i := fun i hi hm => hx (EpS.in_all hi hm)
    have hxp : x ∉ S.pile := fun hm => hx (EpS.mem_all.2 (.inl hm))
    refine ⟨⟨(h.dim.put (h.dim.u _)).put hu, ?_, h.pool.nodup⟩, ?_, ?_, ?_, ?_⟩
    · rw [at_put_other (by omega), at_put_other (by omega)]; exact hne _ _ h.pool.chain hxp
    · intro i hi
      by_cases e : i = d
      · subst e
        rw [at_put_same (by rw [put_len]; omega)]
        have hlL : (S.retire x).L i = x :: S.L i := by simp [EpS.retire, hd]
        rw [hlL, firstF_small (by omega) (by omega)]
        refine ⟨rfl, h1, h2, ?_⟩
        rw [at_put_other (by omega), at_put_same (by rw [h.dim.len]; omega)]
        exact hne _ _ (h.lim i hi) (hxa i hi)
      · have hlL : (S.retire x).L i = S.L i := by simp only [EpS.retire]; rw [if_neg (by omega)]
        rw [hlL, at_put_other (by omega), at_put_other (by omega)]
        exact hne _ _ (h.lim i hi) (hxa i hi)
    · rw [hall.nodup_iff]; exact List.nodup_cons.2 ⟨hx, h.nodup⟩
    · rw [at_put_other (by omega), at_put_other (by omega)]; exact h.ep
    · intro i hi
      rw [at_put_other (by omega), at_put_other (by omega)]; exact h.pins i hi
theorem pins_goes {X : WldK} {t c : Nat} {S : EpS} (h : EpK X t c S) (he : S.e ≤ 1000000) (me : Int) : ∀ (n i : Nat), i + n = t → ∃ j b, j ≤ n ∧ Goes me (pinsT (S.e : Int) n (i : Int)) X j b X ∧ (b = true ↔ ∀ k, i ≤ k → k < t → S.P k = 0 ∨ S.P k = (S.e : Int) + 1)
  | 0, i, hi => ⟨0, true, Nat.le_refl _, Goes.ret _ _, by simp; intro k h1 h2; omega⟩
  | n + 1, i, hi => by
    obtain ⟨-, hlen⟩ := at_ge X h.dim
    have hP := h.pins i (by omega)
    by_cases hg : S.P i = 0 ∨ S.P i = (S.e : Int) + 1
    · obtain ⟨j, b, hj, hgo, hb⟩ := pins_goes h he me n (i + 1) (by omega)
      refine ⟨j + 1, b, by omega, ?_, ?_⟩
      · refine goes_load (by omega) (by omega) ?_
        rw [hP, inc_nat he, if_pos hg]
        exact hgo
      · rw [hb]
        refine ⟨fun hk k h1 h2 => ?_, fun hk k h1 h2 => hk k (by omega) h2⟩
        rcases Nat.lt_or_ge i k with h3 | h3
        · exact hk k (by omega) h2
        · obtain rfl : k = i := by omega
          exact hg
    · refine ⟨1, false, by omega, ?_, ?_⟩
      · refine goes_load (by omega) (by omega) ?_
        rw [hP, inc_nat he, if_neg hg]
        exact Goes.ret _ _
      · simp only [Bool.false_eq_true, false_iff]
        intro hk
        exact hg (hk i (Nat.le_refl _) (by omega))
theorem Dim.three {X : WldK} {t c : Nat} (h : Dim X t c) : (7 : Int) < (X.ws.length : Int) := by have := at_ge X h; have := h.t1; omega
theorem adv_goes {X : WldK} {t c : Nat} {S : EpS} (h : EpK X t c S) (he : S.e ≤ 1000000) (me : Int) (f : Nat) (hf : c ≤ f) : ∃ X' j, j ≤ 3 + t + 4 * c ∧ Goes me (advT t (f + 1)) X j (decide (S.okP t)) X' ∧ EpK X' t c (S.adv t) := by
  have hlen := h.dim.three
  have ht := h.dim.t1
  obtain ⟨j, b, hj, hgo, hb⟩ := pins_goes h he me t 0 (by omega)
  have hb2 : b = decide (S.okP t) := by
    rw [Bool.eq_iff_iff, hb, decide_eq_true_iff]
    exact ⟨fun hk i hi => hk i (Nat.zero_le _) hi, fun hk i _ hi => hk i hi⟩
  by_cases hok : S.okP t
  · have hbt : b = true := by rw [hb2]; exact decide_eq_true hok
    subst hbt
    obtain ⟨d, hd⟩ : ∃ d, d = (S.e + 2) % 3 := ⟨_, rfl⟩
    have hd3 : d < 3 := by rw [hd]; exact Nat.mod_lt _ (by omega)
    have hld := h.lim_len hd3
    have hap := EpS.apart h.nodup
    obtain ⟨X1, hX1⟩ : ∃ X1, X1 = X.put 3 ((S.e : Int) + 1) := ⟨_, rfl⟩
    obtain ⟨X2, hX2⟩ : ∃ X2, X2 = X1.put (4 + (d : Int)) 0 := ⟨_, rfl⟩
    have hu : U64 ((S.e : Int) + 1) := by unfold U64; omega
    have hl1 : X1.ws.length = X.ws.length := by rw [hX1, put_len]
    have hl2 : X2.ws.length = X.ws.length := by rw [hX2, put_len, hl1]
    have hat : ∀ j : Int, j.toNat ≠ 3 → j.toNat ≠ (4 + (d : Int)).toNat → X2.at j = X.at j := fun j h1 h2 => by
      rw [hX2, at_put_other h2, hX1, at_put_other (by omega)]
    have hk : ∀ l r, ChainW X t c l r → ChainW X2 t c l r := fun l r hc => hc.keep fun y _ hy => by
      have := link_pos t hy
      exact hat _ (by omega) (by omega)
    have hD2 : Dim X2 t c := by rw [hX2, hX1]; exact (h.dim.put hu).put u64_zero
    have hp2 : PoolK X2 t c S.pile := ⟨hD2, by rw [hat 1 (by omega) (by omega)]; exact hk _ _ h.pool.chain, h.pool.nodup⟩
    have hnd : (S.L d ++ S.pile).Nodup := by
      rw [List.nodup_append]
      refine ⟨hap.2.1 d hd3, hap.1, fun a ha b hb e => ?_⟩
      subst e
      exact hap.2.2.1 d hd3 a ha hb
    obtain ⟨hg3, hp3⟩ := chain_drain (me := me) (f := f) (S.L d) X2 (firstF (X.at (4 + (d : Int)))) S.pile (f + 1) hp2 (hk _ _ (h.lim d hd3)) hnd (by omega)
    refine ⟨drainX X2 t (S.L d), 1 + (j + (1 + (1 + (4 * (S.L d).length + 0)))), by omega, ?_, ?_⟩
    · rw [decide_eq_true hok, show 1 + (j + (1 + (1 + (4 * (S.L d).length + 0)))) = (j + (1 + (1 + (4 * (S.L d).length + 0)))) + 1 by omega]
      refine goes_load (by omega) (by omega) ?_
      rw [h.ep, Int.toNat_natCast]
      refine Goes.bind hgo ?_
      rw [if_pos rfl, show 1 + (1 + (4 * (S.L d).length + 0)) = (1 + (4 * (S.L d).length + 0)) + 1 by omega]
      refine goes_cas (by omega) (by omega) h.ep ?_
      rw [if_pos rfl, inc_nat he, ← hX1, show ((S.e : Int) + 2) % 18446744073709551616 = ((S.e + 2 : Nat) : Int) by omega, limbo_nat, ← hd, show 1 + (4 * (S.L d).length + 0) = (4 * (S.L d).length + 0) + 1 by omega]
      refine goes_swap (by omega) (by rw [hl1]; omega) ?_
      rw [← hX2, show X1.at (4 + (d : Int)) = X.at (4 + (d : Int)) by rw [hX1, at_put_other (by omega)]]
      exact Goes.cast (Goes.bind hg3 (Goes.ret true _)) (Nat.add_zero _)
    · have hS : S.adv t = S.drain := by unfold EpS.adv; rw [if_pos hok]
      have hlk : ∀ (j : Int), 0 ≤ j → j < 15 + (t : Int) → ∀ x ∈ S.L d, j.toNat ≠ (linkI t x).toNat := fun j h0 h1 x hx => by
        have := link_pos t ((h.lim d hd3).mem x hx).1
        omega
      rw [hS]
      refine ⟨?_, ?_, ?_, ?_, ?_⟩
      · show PoolK _ t c ((S.L ((S.e + 2) % 3)).reverse ++ S.pile)
        rw [← hd]; exact hp3
      · intro i hi
        rw [drain_at (by omega) _ _ (hlk _ (by omega) (by omega))]
        by_cases e : i = d
        · subst e
          have hlL : S.drain.L i = [] := by simp only [EpS.drain]; rw [if_pos hd]
          rw [hlL, hX2, at_put_same (by omega)]
          rfl
        · have hlL : S.drain.L i = S.L i := by simp only [EpS.drain]; rw [if_neg (by omega)]
          rw [hlL, hat _ (by omega) (by omega)]
          refine (hk _ _ (h.lim i hi)).keep fun y hy hy1 => drain_at (by have := link_pos t hy1; omega) _ _ fun x hx => ?_
          exact link_ne hy1 ((h.lim d hd3).mem x hx).1 (fun e2 => hap.2.2.2 d hd3 i hi (fun e3 => e e3.symm) x hx (e2 ▸ hy))
      · rw [(drain_all S).nodup_iff]; exact h.nodup
      · rw [drain_at (by omega) _ _ (hlk _ (by omega) (by omega)), hX2, at_put_other (by omega), hX1, at_put_same (by omega)]
        simp [EpS.drain]
      · intro i hi
        rw [drain_at (by omega) _ _ (hlk _ (by omega) (by omega)), hat _ (by omega) (by omega)]
        exact h.pins i hi
  · have hbf : b = false := by rw [hb2]; exact decide_eq_false hok
    subst hbf
    refine ⟨X, 1 + (j + 0), by omega, ?_, by unfold EpS.adv; rw [if_neg hok]; exact h⟩
    rw [decide_eq_false hok, show 1 + (j + 0) = (j + 0) + 1 by omega]
    refine goes_load (by omega) (by omega) ?_
    rw [h.ep, Int.toNat_natCast]
    refine Goes.cast (Goes.bind hgo ?_) (Nat.add_zero _)
    simp only [Bool.false_eq_true, if_false]
    exact Goes.ret _ _
theorem popS_goes {X : WldK} {t c : Nat} {S : EpS} (h : EpK X t c S) (me : Int) (f : Nat) : ∃ X' j, j ≤ 3 ∧ Goes me (popT t (f + 1)) X j (S.pile.headD 0) X' ∧ EpK X' t c S.pop := by
  cases hp : S.pile with
  | nil =>
    have hpk := h.pool
    rw [hp] at hpk
    refine ⟨X, 1, by omega, pop_none hpk me f, ?_⟩
    have : S.pop = S := by unfold EpS.pop; rw [hp]; cases S; simp_all
    rw [this]; exact h
  | cons x l =>
    have hpk := h.pool
    rw [hp] at hpk
    have hpp := (pop_pool hpk).1
    obtain ⟨hx, h1, h2, h3⟩ := hpk.chain
    have hat : ∀ j : Int, j.toNat ≠ 1 → (popX X t).at j = X.at j := fun j hj => by unfold popX; exact at_put_other (by omega)
    refine ⟨popX X t, 3, by omega, pop_goes hpk me f, ⟨?_, ?_, ?_, ?_, ?_⟩⟩
    · have : S.pop.pile = l := by simp [EpS.pop, hp]
      rw [this]; exact hpp
    · intro i hi
      rw [hat _ (by omega)]
      exact (h.lim i hi).keep fun y _ hy => hat _ (by have := link_pos t hy; omega)
    · have := h.nodup
      unfold EpS.all at this ⊢
      rw [hp, List.cons_append, List.nodup_cons] at this
      simpa [EpS.pop, hp] using this.2
    · rw [hat _ (by omega)]; exact h.ep
    · intro i hi; rw [hat _ (by omega)]; exact h.pins i hi
theorem adv_e (S : EpS) (t : Nat) : (S.adv t).e ≤ S.e + 1 := by
  unfold EpS.adv; split
  · exact Nat.le_refl _
  · exact Nat.le_succ _
theorem allocL_goes {t c : Nat} {me : Nat} (hme : me < t) (f : Nat) (hf : c ≤ f) : ∀ (k : Nat) (X : WldK) (S : EpS) (r : Int), EpK X t c S → S.e + k ≤ 1000000 → ∃ X' j, j ≤ k * (8 + t + 4 * c) ∧ Goes (me : Int) (allocL t me (f + 1) k r) X j (allocS t me k S r).2 X' ∧ EpK X' t c (allocS t me k S r).1
  | 0, X, S, r, h, _ => ⟨X, 0, by omega, Goes.ret _ _, h⟩
  | k + 1, X, S, r, h, he => by
    by_cases hr : r = 0
    · obtain ⟨X1, g1, h1⟩ := pin_goes h (by omega) hme
      have e1 : (S.pin me ((S.e : Int) + 1)).e = S.e := rfl
      obtain ⟨X2, j2, l2, g2, h2⟩ := adv_goes h1 (by omega) (me : Int) f hf
      obtain ⟨X3, j3, l3, g3, h3⟩ := popS_goes h2 (me : Int) f
      have e2 := adv_e (S.pin me ((S.e : Int) + 1)) t
      obtain ⟨X4, j4, l4, g4, h4⟩ := allocL_goes hme f hf k X3 _ (((S.pin me ((S.e : Int) + 1)).adv t).pile.headD 0) h3 (by
        show ((S.pin me ((S.e : Int) + 1)).adv t).e + k ≤ 1000000
        omega)
      refine ⟨X4, 2 + (j2 + (j3 + j4)), ?_, ?_, ?_⟩
      · rw [Nat.succ_mul]; omega
      · unfold allocL allocS
        rw [if_pos hr, if_pos hr]
        exact Goes.bind g1 (Goes.bind g2 (Goes.bind g3 g4))
      · unfold allocS; rw [if_pos hr]; exact h4
    · refine ⟨X, 0, by omega, ?_, by unfold allocS; rw [if_neg hr]; exact h⟩
      unfold allocL allocS
      rw [if_neg hr, if_neg hr]
      exact Goes.ret _ _
theorem alloc_goes {X : WldK} {t c : Nat} {S : EpS} (h : EpK X t c S) {me : Nat} (hme : me < t) (he : S.e + 3 ≤ 1000000) (f : Nat) (hf : c ≤ f) : ∃ X' j, j ≤ 27 + 3 * t + 12 * c ∧ Goes (me : Int) (allocT t me (f + 1)) X j (S.alloc t me).2 X' ∧ EpK X' t c (S.alloc t me).1 := by
  obtain ⟨X1, j1, l1, g1, h1⟩ := popS_goes h (me : Int) f
  obtain ⟨X2, j2, l2, g2, h2⟩ := allocL_goes hme f hf 3 X1 _ (S.pile.headD 0) h1 he
  exact ⟨X2, j1 + j2, by omega, Goes.bind g1 g2, h2⟩
/-! The operations, stepping alone: what 'alone' answers. -/
theorem ep_alone {t me f most : Nat} {k u : Int} {X X' : WldK} {j : Nat} {o : OutN} (hg : Goes (me : Int) (epochT t me k u f) X j o X') (hj : j ≤ most) : aloneN (nextT (epochT t me k u f)) me (most + 1) X [] = (X', o, true) :=
  alone_goes (T0 := epochT t me k u f) hg (fun _ _ => rfl) (by cases epochT t me k u f <;> rfl) (by cases epochT t me k u f <;> trivial) (by omega)
end Go.Proofs.Ytjokaginolpbeaa

namespace Go.Proofs.Ytjokaginolpbeaa
open Go.RowKit

/-! What an allocation takes, and leaves. -/
/-- no other thread is pinned -/
def EpS.lone (S : EpS) (t me : Nat) : Prop := ∀ i, i < t → i ≠ me → S.P i = 0
theorem adv_all (S : EpS) (t : Nat) : (S.adv t).all.Perm S.all := by
  unfold EpS.adv; split
  · exact drain_all S
  · exact List.Perm.refl _
theorem pin_all (S : EpS) (me : Nat) (v : Int) : (S.pin me v).all = S.all := rfl
theorem pop_none_all {S : EpS} (h : S.pile = []) : S.pop.all = S.all := by unfold EpS.pop EpS.all; rw [h]; rfl
theorem pop_some_all {S : EpS} {x : Int} {l : List Int} (h : S.pile = x :: l) : S.all = x :: S.pop.all := by unfold EpS.pop EpS.all; rw [h]; rfl
/-- the limbos behind are empty -/
def EpS.behind (S : EpS) (k : Nat) : Prop := ∀ j, k ≤ j → j < 3 → S.L ((S.e + 2 + j) % 3) = []
theorem allocS_some {t me : Nat} : ∀ (k : Nat) (S : EpS) (r : Int), r ≠ 0 → allocS t me k S r = (S, r)
  | 0, S, r, _ => rfl
  | k + 1, S, r, h => by unfold allocS; rw [if_neg h]
theorem alloc_e {t me : Nat} : ∀ (k : Nat) (S : EpS) (r : Int), (allocS t me k S r).1.e ≤ S.e + k
  | 0, S, r => Nat.le_refl _
  | k + 1, S, r => by
    unfold allocS
    split
    · have h1 := alloc_e (t := t) (me := me) k (((S.pin me ((S.e : Int) + 1)).adv t).pop) (((S.pin me ((S.e : Int) + 1)).adv t).pile.headD 0)
      have h2 := adv_e (S.pin me ((S.e : Int) + 1)) t
      have h3 : ((S.pin me ((S.e : Int) + 1)).adv t).pop.e = ((S.pin me ((S.e : Int) + 1)).adv t).e := rfl
      have h4 : (S.pin me ((S.e : Int) + 1)).e = S.e := rfl
      omega
    · show S.e ≤ S.e + (k + 1)
      omega
theorem alloc_e3 (S : EpS) (t me : Nat) : (S.alloc t me).1.e ≤ S.e + 3 := alloc_e 3 S.pop _
/-- what is free, or retired, and what is had: all records, each once -/
structure HE (N : Nat) (S : EpS) (held : List Int) : Prop where
  nodup : (S.all ++ held).Nodup
  rng : ∀ x ∈ S.all ++ held, 1 ≤ x ∧ x ≤ (N : Int)
  len : S.all.length + held.length = N
theorem HE.hk {N : Nat} {S : EpS} {held : List Int} (h : HE N S held) : HK N S.all held := ⟨h.nodup, fun x hx => h.rng x (by simp [hx]), h.len⟩
theorem HE.perm {N : Nat} {S S' : EpS} {held : List Int} (h : HE N S held) (hp : S'.all.Perm S.all) : HE N S' held :=
  ⟨(hp.append_right held).nodup_iff.2 h.nodup, fun x hx => h.rng x ((hp.append_right held).mem_iff.1 hx), by rw [hp.length_eq]; exact h.len⟩
theorem HE.take {N : Nat} {S S' : EpS} {held : List Int} {x : Int} (h : HE N S held) (hp : S.all.Perm (x :: S'.all)) : HE N S' (held ++ [x]) := by
  have hq : (S'.all ++ (held ++ [x])).Perm (S.all ++ held) := by
    rw [List.perm_iff_count] at hp ⊢
    intro a
    have := hp a
    simp only [List.count_append, List.count_cons, List.count_nil] at this ⊢
    omega
  refine ⟨hq.nodup_iff.2 h.nodup, fun y hy => h.rng y (hq.mem_iff.1 hy), ?_⟩
  have := hq.length_eq
  have h3 := h.len
  simp only [List.length_append] at this ⊢
  omega
theorem HE.back {N : Nat} {S : EpS} {h1 h2 : List Int} {x : Int} (h : HE N S (h1 ++ x :: h2)) : HE N (S.retire x) (h1 ++ h2) ∧ x ∉ S.all ∧ 1 ≤ x ∧ x ≤ (N : Int) := by
  have hr := h.rng x (by simp)
  have hn := h.nodup
  rw [List.nodup_append] at hn
  have hx : x ∉ S.all := fun hm => hn.2.2 x hm x (by simp) rfl
  have hq : ((S.retire x).all ++ (h1 ++ h2)).Perm (S.all ++ (h1 ++ x :: h2)) := by
    have hp := retire_all (S := S) (x := x)
    rw [List.perm_iff_count] at hp ⊢
    intro a
    have := hp a
    simp only [List.count_append, List.count_cons] at this ⊢
    omega
  refine ⟨⟨hq.nodup_iff.2 h.nodup, fun y hy => h.rng y (hq.mem_iff.1 hy), ?_⟩, hx, hr.1, hr.2⟩
  have := hq.length_eq
  have h3 := h.len
  simp only [List.length_append, List.length_cons] at this h3 ⊢
  omega
def newS (c : Nat) : EpS := ⟨0, upFrom 1 c, fun _ => [], fun _ => 0⟩
theorem upFrom_len : ∀ n r, (upFrom r n).length = n
  | 0, _ => rfl
  | n + 1, r => by simp [upFrom, upFrom_len n]
theorem newS_all (c : Nat) : (newS c).all = upFrom 1 c := by simp [newS, EpS.all]
theorem newS_he (c : Nat) : HE c (newS c) [] := by
  refine ⟨by rw [newS_all, List.append_nil]; exact upFrom_nodup _ _, fun x hx => ?_, by rw [newS_all, upFrom_len]; simp⟩
  rw [newS_all, List.append_nil] at hx
  have := upFrom_mem hx
  omega
theorem newF_low {t c r i : Nat} (h1 : i ≠ 1) (h2 : i < 15 + t) : newF t c r i = 0 := by
  unfold newF
  rw [if_neg h1, if_neg (by omega)]
theorem newS_k {t c : Nat} (t1 : 1 ≤ t) (t2 : t ≤ 64) (hc : c ≤ 65536) : EpK (newW t c) t c (newS c) := by
  have hp := new_pool (t := t) (c := c) t1 t2 hc
  have hlow : ∀ i : Nat, i ≠ 1 → i < 8 + t → (newW t c).at (i : Int) = 0 := fun i h1 h2 => by
    rw [new_at t c i (by unfold memL; omega)]
    exact newF_low h1 (by omega)
  refine ⟨hp, fun i hi => ?_, by rw [newS_all]; exact upFrom_nodup _ _, ?_, fun i hi => ?_⟩
  · have := hlow (4 + i) (by omega) (by omega)
    rw [show (4 : Int) + (i : Int) = ((4 + i : Nat) : Int) by omega, this]
    rfl
  · have := hlow 3 (by omega) (by omega)
    exact this
  · have := hlow (8 + i) (by omega) (by omega)
    rw [show (8 : Int) + (i : Int) = ((8 + i : Nat) : Int) by omega, this]
    rfl
/-! Pins, and what three epochs give back. -/
/-! The contracts of 'alone'. -/
end Go.Proofs.Ytjokaginolpbeaa
