import Derived.Test.YtjokaginolpbeaaEpochAlonePartF
import Derived.Test.YtjokaginolpbeaaEpochAlonePartE
import Derived.Test.YtjokaginolpbeaaEpochAlonePartB
import Derived.Test.YtjokaginolpbeaaEpochAlonePartA
import Derived.Lib.Hide
import Derived.LoopTactic
namespace Go.Proofs.Ytjokaginolpbeaa
open Go.RowKit

/-! epoch.Next. -/
theorem log_away (gA gL m : Nat) : DoAway (LogI gA gL m) := by
  intro rs w w' l o ⟨hD, hG⟩ hl ho hx
  refine ⟨?_, hG⟩
  obtain ⟨i, n, c, A, fr, h1, h2, h3, h4, h5, h6⟩ := hD
  have nA : gA ≠ l := fun e => by subst e; rw [h1] at hl; cases hl; cases ho
  have nL : gL ≠ l := fun e => by subst e; rw [h2] at hl; cases hl; cases ho
  refine ⟨i, n, c, A, fr, hx.heap h1 nA, hx.heap h2 nL, h3, h4, h5, fun j r hr => ?_⟩
  obtain ⟨a, ha, hb, hm, hc⟩ := h6 j r hr
  refine ⟨a, ha, hb, hm, hc.extB hx fun e => ?_⟩
  have h7 := hc.1
  unfold World.cell? at h7
  rw [add_block, e, hl] at h7
  cases o <;> simp_all [Obj.isCells]
theorem run_stL_map {α : Type} : ∀ {T : PT α} {rs : List Res}, match T.run (stM Res.n) rs with
    | .ret a s' => T.run stL (rs.map Res.n) = .ret a (s'.map Res.n)
    | .stop x => T.run stL (rs.map Res.n) = .stop x
    | .out => T.run stL (rs.map Res.n) = .out
  | .ret a, rs => rfl
  | .out, rs => rfl
  | .ask x k, [] => rfl
  | .ask x k, r :: rs => by
    simp only [PT.run, stM, stL, List.map_cons]
    exact run_stL_map
def ENextP (r : PR (List Res) OutN) (gA : Nat) (w : World) (e : Ending) (w' : World) : Prop :=
  match r with
  | .stop x => e = needP x.acc.cells ∧ ExtB gA w w'
  | .ret o _ => e = .returned (.agg o.cells) ∧ ExtB gA w w'
  | .out => False
set_option maxRecDepth 100000 in
set_option maxHeartbeats 4000000 in
theorem enext_pin (gA gL m gT gM gP : Nat) (t me u v d : Int) (ht1 : 0 ≤ t) (ht2 : t ≤ 64) (hm1 : 0 ≤ me) (hm2 : me ≤ 64)  (f : Nat) (rs : List Res) (hf : rs.length < f) (w : World) (hD : DoAt m w gA gL rs) (hU : GoodR rs) (hP : w.heap[gP]? = some (.cells #[.int .i64 3, .int .i64 u, .int .i64 v, .int .u64 d] 24 (0, 0))) (hT : w.heap[gT]? = some (.cells #[.int .i64 t] 3 (0, 0))) (hM : w.heap[gM]? = some (.cells #[.int .i64 me] 3 (0, 0))) (nP : gP ≠ gA) (nT : gT ≠ gA) (nM : gM ≠ gA) :
    Calls Try.prog 112 #[doV gA gL, .pointer (some ⟨gP, 0, none⟩), .pointer (some ⟨gM, 0, none⟩), .pointer (some ⟨gT, 0, none⟩)] w (ENextP ((epochT t me 3 u f).run (stM Res.n) rs) gA w) := by
  have hlA : gA < w.heap.size := hD.sizes.1
  have hb1 : ∀ (W : World) (z : Int), (Instr.build 37 #[(2, .int .i64 z)]).run Try.prog W = .ok (.agg #[.int .i64 0, .bool false, .int .i64 z, .int .u64 0, .slice none 0 0]) W := fun _ _ => by kernel_rfl
  have hb4 : ∀ (W : World) (z : Bool), (Instr.build 37 #[(1, .bool z)]).run Try.prog W = .ok (.agg #[.int .i64 0, .bool z, .int .i64 0, .int .u64 0, .slice none 0 0]) W := fun _ _ => by kernel_rfl
  have hb2 : ∀ (W : World), (Instr.build 37 #[]).run Try.prog W = .ok (.agg #[.int .i64 0, .bool false, .int .i64 0, .int .u64 0, .slice none 0 0]) W := fun _ => by kernel_rfl
  have hb3 : ∀ (W : World), (Instr.build 37 #[(0, .int .i64 1)]).run Try.prog W = .ok (.agg #[.int .i64 1, .bool false, .int .i64 0, .int .u64 0, .slice none 0 0]) W := fun _ => by kernel_rfl
  have hfed := (epochT_fed t me 3 u f rs.length hf).run (l := rs) Res.n
  generalize hR : (epochT t me 3 u f).run (stM Res.n) rs = R at hfed
  go_enter Try.func112, Try.ntmps112
  go_upto_region 1 with (fail)
  have hx0 : Ext w (w.alloc (.cells #[.int .i64 0, .bool false, .int .i64 0, .int .u64 0, .slice none 0 0] 37)) := (Below.refl _ w).alloc (Nat.le_refl _) _
  have hO := heap_alloc_new w (.cells #[.int .i64 0, .bool false, .int .i64 0, .int .u64 0, .slice none 0 0] 37)
  generalize w.alloc (.cells #[.int .i64 0, .bool false, .int .i64 0, .int .u64 0, .slice none 0 0] 37) = W0 at *
  generalize hgO : w.heap.size = gO at *
  replace hP := heap_ext hP hx0
  replace hT := heap_ext hT hx0
  replace hM := heap_ext hM hx0
  replace hD := hD.ext hx0
  have hlA0 : gA < W0.heap.size := hD.sizes.1
  have hB := ExtB.of (g := gA) hx0
  have nO : gO ≠ gA := by omega
  have hgO' := Nat.le_of_eq hgO
  clear hx0 hgO hlA nP nT nM
  have p0 : W0.cell? ⟨gP, 0, none⟩ = some (.int .i64 3) := by simp [World.cell?, hP]
  have p1 : W0.cell? ⟨gP, 1, none⟩ = some (.int .i64 u) := by simp [World.cell?, hP]
  have p2 : W0.cell? ⟨gP, 2, none⟩ = some (.int .i64 v) := by simp [World.cell?, hP]
  have p3 : W0.cell? ⟨gP, 3, none⟩ = some (.int .u64 d) := by simp [World.cell?, hP]
  have c0 : W0.cell? ⟨gT, 0, none⟩ = some (.int .i64 t) := by simp [World.cell?, hT]
  have c1 : W0.cell? ⟨gM, 0, none⟩ = some (.int .i64 me) := by simp [World.cell?, hM]
  clear hP hT hM
  have hE0 : epochT t me 3 u f = (pinT me).bind fun r => .ret ⟨0, false, 0, 0⟩ := by simp [epochT]
  rw [hE0, PT.run_bind] at hR
  have hto : (pinT me).run (stM Res.n) rs ≠ .out := fun h => by rw [h] at hR; exact hfed hR.symm
  have hI : LogI gA gL m rs W0 := ⟨hD, hU⟩
  clear hE0
  go_wp2_with fail
  refine (gpin (log_ok gA gL m) me hm1 hm2 rs W0 hI).mono ?_
  intro e w1 h
  cases hq : (pinT me).run (stM Res.n) rs with
  | out => exact absurd hq hto
  | stop x =>
    rw [hq] at h hR
    obtain ⟨rfl, hx⟩ := h
    refine ⟨rfl, ?_⟩
    rw [← hR]
    exact ⟨rfl, hB.trans hx⟩
  | ret r q =>
    rw [hq] at h hR
    obtain ⟨rfl, -, hx⟩ := h
    have HR := Lib.hid hR
    replace hO := hx.heap hO nO
    replace hB := hB.trans hx
    clear hx hq hto p0 p1 p2 p3 c0 c1 hI hR hfed
    have o0 : w1.cell? ⟨gO, 0, none⟩ = some (.int .i64 0) := by simp [World.cell?, hO]
    have of0 : w1.frozen? ⟨gO, 0, none⟩ = false := by simp [World.frozen?, hO]
    have o1 : w1.cell? ⟨gO, 1, none⟩ = some (.bool false) := by simp [World.cell?, hO]
    have of1 : w1.frozen? ⟨gO, 1, none⟩ = false := by simp [World.frozen?, hO]
    have o2 : w1.cell? ⟨gO, 2, none⟩ = some (.int .i64 0) := by simp [World.cell?, hO]
    have of2 : w1.frozen? ⟨gO, 2, none⟩ = false := by simp [World.frozen?, hO]
    have o3 : w1.cell? ⟨gO, 3, none⟩ = some (.int .u64 0) := by simp [World.cell?, hO]
    have of3 : w1.frozen? ⟨gO, 3, none⟩ = false := by simp [World.frozen?, hO]
    have o4 : w1.cell? ⟨gO, 4, none⟩ = some (.slice none 0 0) := by simp [World.cell?, hO]
    have of4 : w1.frozen? ⟨gO, 4, none⟩ = false := by simp [World.frozen?, hO]
    have hO4 : (((((w1.setCell ⟨gO, 0, none⟩ (.int .i64 0)).setCell ⟨gO, 1, none⟩ (.bool false)).setCell ⟨gO, 2, none⟩ (.int .i64 0)).setCell ⟨gO, 3, none⟩ (.int .u64 0)).setCell ⟨gO, 4, none⟩ (.slice none 0 0)).heap[gO]? = some (.cells #[.int .i64 0, .bool false, .int .i64 0, .int .u64 0, .slice none 0 0] 37 (0, 0)) := setAll_all (vs := [.int .i64 0, .bool false, .int .i64 0, .int .u64 0, .slice none 0 0]) hO rfl
    have hB4 : ExtB gA w (((((w1.setCell ⟨gO, 0, none⟩ (.int .i64 0)).setCell ⟨gO, 1, none⟩ (.bool false)).setCell ⟨gO, 2, none⟩ (.int .i64 0)).setCell ⟨gO, 3, none⟩ (.int .u64 0)).setCell ⟨gO, 4, none⟩ (.slice none 0 0)) := ExtB.setAll hB [.int .i64 0, .bool false, .int .i64 0, .int .u64 0, .slice none 0 0] (.inr hgO') 0
    clear hO hB
    go_wp2
    generalize (((((w1.setCell ⟨gO, 0, none⟩ (.int .i64 0)).setCell ⟨gO, 1, none⟩ (.bool false)).setCell ⟨gO, 2, none⟩ (.int .i64 0)).setCell ⟨gO, 3, none⟩ (.int .u64 0)).setCell ⟨gO, 4, none⟩ (.slice none 0 0)) = wo at *
    clear o0 o1 o2 o3 o4 of0 of1 of2 of3 of4
    have o0 : wo.cell? ⟨gO, 0, none⟩ = some (.int .i64 0) := by simp [World.cell?, hO4]
    have o1 : wo.cell? ⟨gO, 1, none⟩ = some (.bool false) := by simp [World.cell?, hO4]
    have o2 : wo.cell? ⟨gO, 2, none⟩ = some (.int .i64 0) := by simp [World.cell?, hO4]
    have o3 : wo.cell? ⟨gO, 3, none⟩ = some (.int .u64 0) := by simp [World.cell?, hO4]
    have o4 : wo.cell? ⟨gO, 4, none⟩ = some (.slice none 0 0) := by simp [World.cell?, hO4]
    refine bodyPost_ret (v := .agg #[.int .i64 0, .bool false, .int .i64 0, .int .u64 0, .slice none 0 0]) (by simp [results, Try.results112, go_sem, o0, o1, o2, o3, o4]) rfl ?_
    rw [← HR.out]
    exact ⟨rfl, hB4⟩
set_option maxRecDepth 100000 in
set_option maxHeartbeats 4000000 in
theorem enext_unpin (gA gL m gT gM gP : Nat) (t me u v d : Int) (ht1 : 0 ≤ t) (ht2 : t ≤ 64) (hm1 : 0 ≤ me) (hm2 : me ≤ 64)  (f : Nat) (rs : List Res) (hf : rs.length < f) (w : World) (hD : DoAt m w gA gL rs) (hU : GoodR rs) (hP : w.heap[gP]? = some (.cells #[.int .i64 4, .int .i64 u, .int .i64 v, .int .u64 d] 24 (0, 0))) (hT : w.heap[gT]? = some (.cells #[.int .i64 t] 3 (0, 0))) (hM : w.heap[gM]? = some (.cells #[.int .i64 me] 3 (0, 0))) (nP : gP ≠ gA) (nT : gT ≠ gA) (nM : gM ≠ gA) :
    Calls Try.prog 112 #[doV gA gL, .pointer (some ⟨gP, 0, none⟩), .pointer (some ⟨gM, 0, none⟩), .pointer (some ⟨gT, 0, none⟩)] w (ENextP ((epochT t me 4 u f).run (stM Res.n) rs) gA w) := by
  have hlA : gA < w.heap.size := hD.sizes.1
  have hb1 : ∀ (W : World) (z : Int), (Instr.build 37 #[(2, .int .i64 z)]).run Try.prog W = .ok (.agg #[.int .i64 0, .bool false, .int .i64 z, .int .u64 0, .slice none 0 0]) W := fun _ _ => by kernel_rfl
  have hb4 : ∀ (W : World) (z : Bool), (Instr.build 37 #[(1, .bool z)]).run Try.prog W = .ok (.agg #[.int .i64 0, .bool z, .int .i64 0, .int .u64 0, .slice none 0 0]) W := fun _ _ => by kernel_rfl
  have hb2 : ∀ (W : World), (Instr.build 37 #[]).run Try.prog W = .ok (.agg #[.int .i64 0, .bool false, .int .i64 0, .int .u64 0, .slice none 0 0]) W := fun _ => by kernel_rfl
  have hb3 : ∀ (W : World), (Instr.build 37 #[(0, .int .i64 1)]).run Try.prog W = .ok (.agg #[.int .i64 1, .bool false, .int .i64 0, .int .u64 0, .slice none 0 0]) W := fun _ => by kernel_rfl
  have hfed := (epochT_fed t me 4 u f rs.length hf).run (l := rs) Res.n
  generalize hR : (epochT t me 4 u f).run (stM Res.n) rs = R at hfed
  go_enter Try.func112, Try.ntmps112
  go_upto_region 1 with (fail)
  have hx0 : Ext w (w.alloc (.cells #[.int .i64 0, .bool false, .int .i64 0, .int .u64 0, .slice none 0 0] 37)) := (Below.refl _ w).alloc (Nat.le_refl _) _
  have hO := heap_alloc_new w (.cells #[.int .i64 0, .bool false, .int .i64 0, .int .u64 0, .slice none 0 0] 37)
  generalize w.alloc (.cells #[.int .i64 0, .bool false, .int .i64 0, .int .u64 0, .slice none 0 0] 37) = W0 at *
  generalize hgO : w.heap.size = gO at *
  replace hP := heap_ext hP hx0
  replace hT := heap_ext hT hx0
  replace hM := heap_ext hM hx0
  replace hD := hD.ext hx0
  have hlA0 : gA < W0.heap.size := hD.sizes.1
  have hB := ExtB.of (g := gA) hx0
  have nO : gO ≠ gA := by omega
  have hgO' := Nat.le_of_eq hgO
  clear hx0 hgO hlA nP nT nM
  have p0 : W0.cell? ⟨gP, 0, none⟩ = some (.int .i64 4) := by simp [World.cell?, hP]
  have p1 : W0.cell? ⟨gP, 1, none⟩ = some (.int .i64 u) := by simp [World.cell?, hP]
  have p2 : W0.cell? ⟨gP, 2, none⟩ = some (.int .i64 v) := by simp [World.cell?, hP]
  have p3 : W0.cell? ⟨gP, 3, none⟩ = some (.int .u64 d) := by simp [World.cell?, hP]
  have c0 : W0.cell? ⟨gT, 0, none⟩ = some (.int .i64 t) := by simp [World.cell?, hT]
  have c1 : W0.cell? ⟨gM, 0, none⟩ = some (.int .i64 me) := by simp [World.cell?, hM]
  clear hP hT hM
  have hE0 : epochT t me 4 u f = (unpinT me).bind fun r => .ret ⟨0, false, 0, 0⟩ := by simp [epochT]
  rw [hE0, PT.run_bind] at hR
  have hto : (unpinT me).run (stM Res.n) rs ≠ .out := fun h => by rw [h] at hR; exact hfed hR.symm
  have hI : LogI gA gL m rs W0 := ⟨hD, hU⟩
  clear hE0
  go_wp2_with fail
  refine (gunpin (log_ok gA gL m) me hm1 hm2 rs W0 hI).mono ?_
  intro e w1 h
  cases hq : (unpinT me).run (stM Res.n) rs with
  | out => exact absurd hq hto
  | stop x =>
    rw [hq] at h hR
    obtain ⟨rfl, hx⟩ := h
    refine ⟨rfl, ?_⟩
    rw [← hR]
    exact ⟨rfl, hB.trans hx⟩
  | ret r q =>
    rw [hq] at h hR
    obtain ⟨rfl, -, hx⟩ := h
    have HR := Lib.hid hR
    replace hO := hx.heap hO nO
    replace hB := hB.trans hx
    clear hx hq hto p0 p1 p2 p3 c0 c1 hI hR hfed
    have o0 : w1.cell? ⟨gO, 0, none⟩ = some (.int .i64 0) := by simp [World.cell?, hO]
    have of0 : w1.frozen? ⟨gO, 0, none⟩ = false := by simp [World.frozen?, hO]
    have o1 : w1.cell? ⟨gO, 1, none⟩ = some (.bool false) := by simp [World.cell?, hO]
    have of1 : w1.frozen? ⟨gO, 1, none⟩ = false := by simp [World.frozen?, hO]
    have o2 : w1.cell? ⟨gO, 2, none⟩ = some (.int .i64 0) := by simp [World.cell?, hO]
    have of2 : w1.frozen? ⟨gO, 2, none⟩ = false := by simp [World.frozen?, hO]
    have o3 : w1.cell? ⟨gO, 3, none⟩ = some (.int .u64 0) := by simp [World.cell?, hO]
    have of3 : w1.frozen? ⟨gO, 3, none⟩ = false := by simp [World.frozen?, hO]
    have o4 : w1.cell? ⟨gO, 4, none⟩ = some (.slice none 0 0) := by simp [World.cell?, hO]
    have of4 : w1.frozen? ⟨gO, 4, none⟩ = false := by simp [World.frozen?, hO]
    have hO4 : (((((w1.setCell ⟨gO, 0, none⟩ (.int .i64 0)).setCell ⟨gO, 1, none⟩ (.bool false)).setCell ⟨gO, 2, none⟩ (.int .i64 0)).setCell ⟨gO, 3, none⟩ (.int .u64 0)).setCell ⟨gO, 4, none⟩ (.slice none 0 0)).heap[gO]? = some (.cells #[.int .i64 0, .bool false, .int .i64 0, .int .u64 0, .slice none 0 0] 37 (0, 0)) := setAll_all (vs := [.int .i64 0, .bool false, .int .i64 0, .int .u64 0, .slice none 0 0]) hO rfl
    have hB4 : ExtB gA w (((((w1.setCell ⟨gO, 0, none⟩ (.int .i64 0)).setCell ⟨gO, 1, none⟩ (.bool false)).setCell ⟨gO, 2, none⟩ (.int .i64 0)).setCell ⟨gO, 3, none⟩ (.int .u64 0)).setCell ⟨gO, 4, none⟩ (.slice none 0 0)) := ExtB.setAll hB [.int .i64 0, .bool false, .int .i64 0, .int .u64 0, .slice none 0 0] (.inr hgO') 0
    clear hO hB
    go_wp2
    generalize (((((w1.setCell ⟨gO, 0, none⟩ (.int .i64 0)).setCell ⟨gO, 1, none⟩ (.bool false)).setCell ⟨gO, 2, none⟩ (.int .i64 0)).setCell ⟨gO, 3, none⟩ (.int .u64 0)).setCell ⟨gO, 4, none⟩ (.slice none 0 0)) = wo at *
    clear o0 o1 o2 o3 o4 of0 of1 of2 of3 of4
    have o0 : wo.cell? ⟨gO, 0, none⟩ = some (.int .i64 0) := by simp [World.cell?, hO4]
    have o1 : wo.cell? ⟨gO, 1, none⟩ = some (.bool false) := by simp [World.cell?, hO4]
    have o2 : wo.cell? ⟨gO, 2, none⟩ = some (.int .i64 0) := by simp [World.cell?, hO4]
    have o3 : wo.cell? ⟨gO, 3, none⟩ = some (.int .u64 0) := by simp [World.cell?, hO4]
    have o4 : wo.cell? ⟨gO, 4, none⟩ = some (.slice none 0 0) := by simp [World.cell?, hO4]
    refine bodyPost_ret (v := .agg #[.int .i64 0, .bool false, .int .i64 0, .int .u64 0, .slice none 0 0]) (by simp [results, Try.results112, go_sem, o0, o1, o2, o3, o4]) rfl ?_
    rw [← HR.out]
    exact ⟨rfl, hB4⟩
set_option maxRecDepth 100000 in
set_option maxHeartbeats 4000000 in
theorem enext_retire (gA gL m gT gM gP : Nat) (t me u v d : Int) (ht1 : 0 ≤ t) (ht2 : t ≤ 64) (hm1 : 0 ≤ me) (hm2 : me ≤ 64) (hu1 : 0 ≤ u) (hu2 : u ≤ 1048576) (f : Nat) (rs : List Res) (hf : rs.length < f) (w : World) (hD : DoAt m w gA gL rs) (hU : GoodR rs) (hP : w.heap[gP]? = some (.cells #[.int .i64 5, .int .i64 u, .int .i64 v, .int .u64 d] 24 (0, 0))) (hT : w.heap[gT]? = some (.cells #[.int .i64 t] 3 (0, 0))) (hM : w.heap[gM]? = some (.cells #[.int .i64 me] 3 (0, 0))) (nP : gP ≠ gA) (nT : gT ≠ gA) (nM : gM ≠ gA) :
    Calls Try.prog 112 #[doV gA gL, .pointer (some ⟨gP, 0, none⟩), .pointer (some ⟨gM, 0, none⟩), .pointer (some ⟨gT, 0, none⟩)] w (ENextP ((epochT t me 5 u f).run (stM Res.n) rs) gA w) := by
  have hlA : gA < w.heap.size := hD.sizes.1
  have hb1 : ∀ (W : World) (z : Int), (Instr.build 37 #[(2, .int .i64 z)]).run Try.prog W = .ok (.agg #[.int .i64 0, .bool false, .int .i64 z, .int .u64 0, .slice none 0 0]) W := fun _ _ => by kernel_rfl
  have hb4 : ∀ (W : World) (z : Bool), (Instr.build 37 #[(1, .bool z)]).run Try.prog W = .ok (.agg #[.int .i64 0, .bool z, .int .i64 0, .int .u64 0, .slice none 0 0]) W := fun _ _ => by kernel_rfl
  have hb2 : ∀ (W : World), (Instr.build 37 #[]).run Try.prog W = .ok (.agg #[.int .i64 0, .bool false, .int .i64 0, .int .u64 0, .slice none 0 0]) W := fun _ => by kernel_rfl
  have hb3 : ∀ (W : World), (Instr.build 37 #[(0, .int .i64 1)]).run Try.prog W = .ok (.agg #[.int .i64 1, .bool false, .int .i64 0, .int .u64 0, .slice none 0 0]) W := fun _ => by kernel_rfl
  have hfed := (epochT_fed t me 5 u f rs.length hf).run (l := rs) Res.n
  generalize hR : (epochT t me 5 u f).run (stM Res.n) rs = R at hfed
  go_enter Try.func112, Try.ntmps112
  go_upto_region 1 with (fail)
  have hx0 : Ext w (w.alloc (.cells #[.int .i64 0, .bool false, .int .i64 0, .int .u64 0, .slice none 0 0] 37)) := (Below.refl _ w).alloc (Nat.le_refl _) _
  have hO := heap_alloc_new w (.cells #[.int .i64 0, .bool false, .int .i64 0, .int .u64 0, .slice none 0 0] 37)
  generalize w.alloc (.cells #[.int .i64 0, .bool false, .int .i64 0, .int .u64 0, .slice none 0 0] 37) = W0 at *
  generalize hgO : w.heap.size = gO at *
  replace hP := heap_ext hP hx0
  replace hT := heap_ext hT hx0
  replace hM := heap_ext hM hx0
  replace hD := hD.ext hx0
  have hlA0 : gA < W0.heap.size := hD.sizes.1
  have hB := ExtB.of (g := gA) hx0
  have nO : gO ≠ gA := by omega
  have hgO' := Nat.le_of_eq hgO
  clear hx0 hgO hlA nP nT nM
  have p0 : W0.cell? ⟨gP, 0, none⟩ = some (.int .i64 5) := by simp [World.cell?, hP]
  have p1 : W0.cell? ⟨gP, 1, none⟩ = some (.int .i64 u) := by simp [World.cell?, hP]
  have p2 : W0.cell? ⟨gP, 2, none⟩ = some (.int .i64 v) := by simp [World.cell?, hP]
  have p3 : W0.cell? ⟨gP, 3, none⟩ = some (.int .u64 d) := by simp [World.cell?, hP]
  have c0 : W0.cell? ⟨gT, 0, none⟩ = some (.int .i64 t) := by simp [World.cell?, hT]
  have c1 : W0.cell? ⟨gM, 0, none⟩ = some (.int .i64 me) := by simp [World.cell?, hM]
  clear hP hT hM
  have hE0 : epochT t me 5 u f = (retireT t u f).bind fun r => .ret ⟨0, false, 0, 0⟩ := by simp [epochT]
  rw [hE0, PT.run_bind] at hR
  have hto : (retireT t u f).run (stM Res.n) rs ≠ .out := fun h => by rw [h] at hR; exact hfed hR.symm
  have hI : LogI gA gL m rs W0 := ⟨hD, hU⟩
  clear hE0
  go_wp2_with fail
  refine (gretire (log_ok gA gL m) t u ht1 ht2 hu1 hu2 f rs W0 hI hto).mono ?_
  intro e w1 h
  cases hq : (retireT t u f).run (stM Res.n) rs with
  | out => exact absurd hq hto
  | stop x =>
    rw [hq] at h hR
    obtain ⟨rfl, hx⟩ := h
    refine ⟨rfl, ?_⟩
    rw [← hR]
    exact ⟨rfl, hB.trans hx⟩
  | ret r q =>
    rw [hq] at h hR
    obtain ⟨rfl, -, hx⟩ := h
    have HR := Lib.hid hR
    replace hO := hx.heap hO nO
    replace hB := hB.trans hx
    clear hx hq hto p0 p1 p2 p3 c0 c1 hI hR hfed
    have o0 : w1.cell? ⟨gO, 0, none⟩ = some (.int .i64 0) := by simp [World.cell?, hO]
    have of0 : w1.frozen? ⟨gO, 0, none⟩ = false := by simp [World.frozen?, hO]
    have o1 : w1.cell? ⟨gO, 1, none⟩ = some (.bool false) := by simp [World.cell?, hO]
    have of1 : w1.frozen? ⟨gO, 1, none⟩ = false := by simp [World.frozen?, hO]
    have o2 : w1.cell? ⟨gO, 2, none⟩ = some (.int .i64 0) := by simp [World.cell?, hO]
    have of2 : w1.frozen? ⟨gO, 2, none⟩ = false := by simp [World.frozen?, hO]
    have o3 : w1.cell? ⟨gO, 3, none⟩ = some (.int .u64 0) := by simp [World.cell?, hO]
    have of3 : w1.frozen? ⟨gO, 3, none⟩ = false := by simp [World.frozen?, hO]
    have o4 : w1.cell? ⟨gO, 4, none⟩ = some (.slice none 0 0) := by simp [World.cell?, hO]
    have of4 : w1.frozen? ⟨gO, 4, none⟩ = false := by simp [World.frozen?, hO]
    have hO4 : (((((w1.setCell ⟨gO, 0, none⟩ (.int .i64 0)).setCell ⟨gO, 1, none⟩ (.bool false)).setCell ⟨gO, 2, none⟩ (.int .i64 0)).setCell ⟨gO, 3, none⟩ (.int .u64 0)).setCell ⟨gO, 4, none⟩ (.slice none 0 0)).heap[gO]? = some (.cells #[.int .i64 0, .bool false, .int .i64 0, .int .u64 0, .slice none 0 0] 37 (0, 0)) := setAll_all (vs := [.int .i64 0, .bool false, .int .i64 0, .int .u64 0, .slice none 0 0]) hO rfl
    have hB4 : ExtB gA w (((((w1.setCell ⟨gO, 0, none⟩ (.int .i64 0)).setCell ⟨gO, 1, none⟩ (.bool false)).setCell ⟨gO, 2, none⟩ (.int .i64 0)).setCell ⟨gO, 3, none⟩ (.int .u64 0)).setCell ⟨gO, 4, none⟩ (.slice none 0 0)) := ExtB.setAll hB [.int .i64 0, .bool false, .int .i64 0, .int .u64 0, .slice none 0 0] (.inr hgO') 0
    clear hO hB
    go_wp2
    generalize (((((w1.setCell ⟨gO, 0, none⟩ (.int .i64 0)).setCell ⟨gO, 1, none⟩ (.bool false)).setCell ⟨gO, 2, none⟩ (.int .i64 0)).setCell ⟨gO, 3, none⟩ (.int .u64 0)).setCell ⟨gO, 4, none⟩ (.slice none 0 0)) = wo at *
    clear o0 o1 o2 o3 o4 of0 of1 of2 of3 of4
    have o0 : wo.cell? ⟨gO, 0, none⟩ = some (.int .i64 0) := by simp [World.cell?, hO4]
    have o1 : wo.cell? ⟨gO, 1, none⟩ = some (.bool false) := by simp [World.cell?, hO4]
    have o2 : wo.cell? ⟨gO, 2, none⟩ = some (.int .i64 0) := by simp [World.cell?, hO4]
    have o3 : wo.cell? ⟨gO, 3, none⟩ = some (.int .u64 0) := by simp [World.cell?, hO4]
    have o4 : wo.cell? ⟨gO, 4, none⟩ = some (.slice none 0 0) := by simp [World.cell?, hO4]
    refine bodyPost_ret (v := .agg #[.int .i64 0, .bool false, .int .i64 0, .int .u64 0, .slice none 0 0]) (by simp [results, Try.results112, go_sem, o0, o1, o2, o3, o4]) rfl ?_
    rw [← HR.out]
    exact ⟨rfl, hB4⟩
set_option maxRecDepth 100000 in
set_option maxHeartbeats 4000000 in
theorem enext_adv (gA gL m gT gM gP : Nat) (t me u v d : Int) (ht1 : 0 ≤ t) (ht2 : t ≤ 64) (hm1 : 0 ≤ me) (hm2 : me ≤ 64)  (f : Nat) (rs : List Res) (hf : rs.length < f) (w : World) (hD : DoAt m w gA gL rs) (hU : GoodR rs) (hP : w.heap[gP]? = some (.cells #[.int .i64 19, .int .i64 u, .int .i64 v, .int .u64 d] 24 (0, 0))) (hT : w.heap[gT]? = some (.cells #[.int .i64 t] 3 (0, 0))) (hM : w.heap[gM]? = some (.cells #[.int .i64 me] 3 (0, 0))) (nP : gP ≠ gA) (nT : gT ≠ gA) (nM : gM ≠ gA) :
    Calls Try.prog 112 #[doV gA gL, .pointer (some ⟨gP, 0, none⟩), .pointer (some ⟨gM, 0, none⟩), .pointer (some ⟨gT, 0, none⟩)] w (ENextP ((epochT t me 19 u f).run (stM Res.n) rs) gA w) := by
  have hlA : gA < w.heap.size := hD.sizes.1
  have hb1 : ∀ (W : World) (z : Int), (Instr.build 37 #[(2, .int .i64 z)]).run Try.prog W = .ok (.agg #[.int .i64 0, .bool false, .int .i64 z, .int .u64 0, .slice none 0 0]) W := fun _ _ => by kernel_rfl
  have hb4 : ∀ (W : World) (z : Bool), (Instr.build 37 #[(1, .bool z)]).run Try.prog W = .ok (.agg #[.int .i64 0, .bool z, .int .i64 0, .int .u64 0, .slice none 0 0]) W := fun _ _ => by kernel_rfl
  have hb2 : ∀ (W : World), (Instr.build 37 #[]).run Try.prog W = .ok (.agg #[.int .i64 0, .bool false, .int .i64 0, .int .u64 0, .slice none 0 0]) W := fun _ => by kernel_rfl
  have hb3 : ∀ (W : World), (Instr.build 37 #[(0, .int .i64 1)]).run Try.prog W = .ok (.agg #[.int .i64 1, .bool false, .int .i64 0, .int .u64 0, .slice none 0 0]) W := fun _ => by kernel_rfl
  have hfed := (epochT_fed t me 19 u f rs.length hf).run (l := rs) Res.n
  generalize hR : (epochT t me 19 u f).run (stM Res.n) rs = R at hfed
  go_enter Try.func112, Try.ntmps112
  go_upto_region 1 with (fail)
  have hx0 : Ext w (w.alloc (.cells #[.int .i64 0, .bool false, .int .i64 0, .int .u64 0, .slice none 0 0] 37)) := (Below.refl _ w).alloc (Nat.le_refl _) _
  have hO := heap_alloc_new w (.cells #[.int .i64 0, .bool false, .int .i64 0, .int .u64 0, .slice none 0 0] 37)
  generalize w.alloc (.cells #[.int .i64 0, .bool false, .int .i64 0, .int .u64 0, .slice none 0 0] 37) = W0 at *
  generalize hgO : w.heap.size = gO at *
  replace hP := heap_ext hP hx0
  replace hT := heap_ext hT hx0
  replace hM := heap_ext hM hx0
  replace hD := hD.ext hx0
  have hlA0 : gA < W0.heap.size := hD.sizes.1
  have hB := ExtB.of (g := gA) hx0
  have nO : gO ≠ gA := by omega
  have hgO' := Nat.le_of_eq hgO
  clear hx0 hgO hlA nP nT nM
  have p0 : W0.cell? ⟨gP, 0, none⟩ = some (.int .i64 19) := by simp [World.cell?, hP]
  have p1 : W0.cell? ⟨gP, 1, none⟩ = some (.int .i64 u) := by simp [World.cell?, hP]
  have p2 : W0.cell? ⟨gP, 2, none⟩ = some (.int .i64 v) := by simp [World.cell?, hP]
  have p3 : W0.cell? ⟨gP, 3, none⟩ = some (.int .u64 d) := by simp [World.cell?, hP]
  have c0 : W0.cell? ⟨gT, 0, none⟩ = some (.int .i64 t) := by simp [World.cell?, hT]
  have c1 : W0.cell? ⟨gM, 0, none⟩ = some (.int .i64 me) := by simp [World.cell?, hM]
  clear hP hT hM
  have hE0 : epochT t me 19 u f = (advT t f).bind fun r => .ret ⟨0, r, 0, 0⟩ := by simp [epochT]
  rw [hE0, PT.run_bind] at hR
  have hto : (advT t f).run (stM Res.n) rs ≠ .out := fun h => by rw [h] at hR; exact hfed hR.symm
  have hI : LogI gA gL m rs W0 := ⟨hD, hU⟩
  clear hE0
  go_wp2_with fail
  refine (gadvance (log_ok gA gL m) (log_away gA gL m) t ht1 ht2 f rs W0 hI hlA0 hto).mono ?_
  intro e w1 h
  cases hq : (advT t f).run (stM Res.n) rs with
  | out => exact absurd hq hto
  | stop x =>
    rw [hq] at h hR
    obtain ⟨rfl, hx⟩ := h
    refine ⟨rfl, ?_⟩
    rw [← hR]
    exact ⟨rfl, hB.trans hx⟩
  | ret r q =>
    rw [hq] at h hR
    obtain ⟨rfl, -, hx⟩ := h
    have HR := Lib.hid hR
    replace hO := hx.heap hO nO
    replace hB := hB.trans hx
    clear hx hq hto p0 p1 p2 p3 c0 c1 hI hR hfed
    have o0 : w1.cell? ⟨gO, 0, none⟩ = some (.int .i64 0) := by simp [World.cell?, hO]
    have of0 : w1.frozen? ⟨gO, 0, none⟩ = false := by simp [World.frozen?, hO]
    have o1 : w1.cell? ⟨gO, 1, none⟩ = some (.bool false) := by simp [World.cell?, hO]
    have of1 : w1.frozen? ⟨gO, 1, none⟩ = false := by simp [World.frozen?, hO]
    have o2 : w1.cell? ⟨gO, 2, none⟩ = some (.int .i64 0) := by simp [World.cell?, hO]
    have of2 : w1.frozen? ⟨gO, 2, none⟩ = false := by simp [World.frozen?, hO]
    have o3 : w1.cell? ⟨gO, 3, none⟩ = some (.int .u64 0) := by simp [World.cell?, hO]
    have of3 : w1.frozen? ⟨gO, 3, none⟩ = false := by simp [World.frozen?, hO]
    have o4 : w1.cell? ⟨gO, 4, none⟩ = some (.slice none 0 0) := by simp [World.cell?, hO]
    have of4 : w1.frozen? ⟨gO, 4, none⟩ = false := by simp [World.frozen?, hO]
    have hO4 : (((((w1.setCell ⟨gO, 0, none⟩ (.int .i64 0)).setCell ⟨gO, 1, none⟩ (.bool r)).setCell ⟨gO, 2, none⟩ (.int .i64 0)).setCell ⟨gO, 3, none⟩ (.int .u64 0)).setCell ⟨gO, 4, none⟩ (.slice none 0 0)).heap[gO]? = some (.cells #[.int .i64 0, .bool r, .int .i64 0, .int .u64 0, .slice none 0 0] 37 (0, 0)) := setAll_all (vs := [.int .i64 0, .bool r, .int .i64 0, .int .u64 0, .slice none 0 0]) hO rfl
    have hB4 : ExtB gA w (((((w1.setCell ⟨gO, 0, none⟩ (.int .i64 0)).setCell ⟨gO, 1, none⟩ (.bool r)).setCell ⟨gO, 2, none⟩ (.int .i64 0)).setCell ⟨gO, 3, none⟩ (.int .u64 0)).setCell ⟨gO, 4, none⟩ (.slice none 0 0)) := ExtB.setAll hB [.int .i64 0, .bool r, .int .i64 0, .int .u64 0, .slice none 0 0] (.inr hgO') 0
    clear hO hB
    go_wp2
    generalize (((((w1.setCell ⟨gO, 0, none⟩ (.int .i64 0)).setCell ⟨gO, 1, none⟩ (.bool r)).setCell ⟨gO, 2, none⟩ (.int .i64 0)).setCell ⟨gO, 3, none⟩ (.int .u64 0)).setCell ⟨gO, 4, none⟩ (.slice none 0 0)) = wo at *
    clear o0 o1 o2 o3 o4 of0 of1 of2 of3 of4
    have o0 : wo.cell? ⟨gO, 0, none⟩ = some (.int .i64 0) := by simp [World.cell?, hO4]
    have o1 : wo.cell? ⟨gO, 1, none⟩ = some (.bool r) := by simp [World.cell?, hO4]
    have o2 : wo.cell? ⟨gO, 2, none⟩ = some (.int .i64 0) := by simp [World.cell?, hO4]
    have o3 : wo.cell? ⟨gO, 3, none⟩ = some (.int .u64 0) := by simp [World.cell?, hO4]
    have o4 : wo.cell? ⟨gO, 4, none⟩ = some (.slice none 0 0) := by simp [World.cell?, hO4]
    refine bodyPost_ret (v := .agg #[.int .i64 0, .bool r, .int .i64 0, .int .u64 0, .slice none 0 0]) (by simp [results, Try.results112, go_sem, o0, o1, o2, o3, o4]) rfl ?_
    rw [← HR.out]
    exact ⟨rfl, hB4⟩
set_option maxRecDepth 100000 in
set_option maxHeartbeats 4000000 in
theorem enext_alloc (gA gL m gT gM gP : Nat) (t me u v d : Int) (ht1 : 0 ≤ t) (ht2 : t ≤ 64) (hm1 : 0 ≤ me) (hm2 : me ≤ 64)  (f : Nat) (rs : List Res) (hf : rs.length < f) (w : World) (hD : DoAt m w gA gL rs) (hU : GoodR rs) (hP : w.heap[gP]? = some (.cells #[.int .i64 6, .int .i64 u, .int .i64 v, .int .u64 d] 24 (0, 0))) (hT : w.heap[gT]? = some (.cells #[.int .i64 t] 3 (0, 0))) (hM : w.heap[gM]? = some (.cells #[.int .i64 me] 3 (0, 0))) (nP : gP ≠ gA) (nT : gT ≠ gA) (nM : gM ≠ gA) :
    Calls Try.prog 112 #[doV gA gL, .pointer (some ⟨gP, 0, none⟩), .pointer (some ⟨gM, 0, none⟩), .pointer (some ⟨gT, 0, none⟩)] w (ENextP ((epochT t me 6 u f).run (stM Res.n) rs) gA w) := by
  have hlA : gA < w.heap.size := hD.sizes.1
  have hb1 : ∀ (W : World) (z : Int), (Instr.build 37 #[(2, .int .i64 z)]).run Try.prog W = .ok (.agg #[.int .i64 0, .bool false, .int .i64 z, .int .u64 0, .slice none 0 0]) W := fun _ _ => by kernel_rfl
  have hb4 : ∀ (W : World) (z : Bool), (Instr.build 37 #[(1, .bool z)]).run Try.prog W = .ok (.agg #[.int .i64 0, .bool z, .int .i64 0, .int .u64 0, .slice none 0 0]) W := fun _ _ => by kernel_rfl
  have hb2 : ∀ (W : World), (Instr.build 37 #[]).run Try.prog W = .ok (.agg #[.int .i64 0, .bool false, .int .i64 0, .int .u64 0, .slice none 0 0]) W := fun _ => by kernel_rfl
  have hb3 : ∀ (W : World), (Instr.build 37 #[(0, .int .i64 1)]).run Try.prog W = .ok (.agg #[.int .i64 1, .bool false, .int .i64 0, .int .u64 0, .slice none 0 0]) W := fun _ => by kernel_rfl
  have hfed := (epochT_fed t me 6 u f rs.length hf).run (l := rs) Res.n
  generalize hR : (epochT t me 6 u f).run (stM Res.n) rs = R at hfed
  go_enter Try.func112, Try.ntmps112
  go_upto_region 1 with (fail)
  have hx0 : Ext w (w.alloc (.cells #[.int .i64 0, .bool false, .int .i64 0, .int .u64 0, .slice none 0 0] 37)) := (Below.refl _ w).alloc (Nat.le_refl _) _
  have hO := heap_alloc_new w (.cells #[.int .i64 0, .bool false, .int .i64 0, .int .u64 0, .slice none 0 0] 37)
  generalize w.alloc (.cells #[.int .i64 0, .bool false, .int .i64 0, .int .u64 0, .slice none 0 0] 37) = W0 at *
  generalize hgO : w.heap.size = gO at *
  replace hP := heap_ext hP hx0
  replace hT := heap_ext hT hx0
  replace hM := heap_ext hM hx0
  replace hD := hD.ext hx0
  have hlA0 : gA < W0.heap.size := hD.sizes.1
  have hB := ExtB.of (g := gA) hx0
  have nO : gO ≠ gA := by omega
  have hgO' := Nat.le_of_eq hgO
  clear hx0 hgO hlA nP nT nM
  have p0 : W0.cell? ⟨gP, 0, none⟩ = some (.int .i64 6) := by simp [World.cell?, hP]
  have p1 : W0.cell? ⟨gP, 1, none⟩ = some (.int .i64 u) := by simp [World.cell?, hP]
  have p2 : W0.cell? ⟨gP, 2, none⟩ = some (.int .i64 v) := by simp [World.cell?, hP]
  have p3 : W0.cell? ⟨gP, 3, none⟩ = some (.int .u64 d) := by simp [World.cell?, hP]
  have c0 : W0.cell? ⟨gT, 0, none⟩ = some (.int .i64 t) := by simp [World.cell?, hT]
  have c1 : W0.cell? ⟨gM, 0, none⟩ = some (.int .i64 me) := by simp [World.cell?, hM]
  clear hP hT hM
  have hE0 : epochT t me 6 u f = (allocT t me f).bind fun r => .ret ⟨0, false, r, 0⟩ := by simp [epochT]
  rw [hE0, PT.run_bind] at hR
  have hto : (allocT t me f).run (stM Res.n) rs ≠ .out := fun h => by rw [h] at hR; exact hfed hR.symm
  have hI : LogI gA gL m rs W0 := ⟨hD, hU⟩
  clear hE0
  go_wp2_with fail
  refine (galloc (log_ok gA gL m) (log_away gA gL m) t me ht1 ht2 hm1 hm2 f rs W0 hI hlA0 hto).mono ?_
  intro e w1 h
  cases hq : (allocT t me f).run (stM Res.n) rs with
  | out => exact absurd hq hto
  | stop x =>
    rw [hq] at h hR
    obtain ⟨rfl, hx⟩ := h
    refine ⟨rfl, ?_⟩
    rw [← hR]
    exact ⟨rfl, hB.trans hx⟩
  | ret r q =>
    rw [hq] at h hR
    obtain ⟨rfl, -, hx⟩ := h
    have HR := Lib.hid hR
    replace hO := hx.heap hO nO
    replace hB := hB.trans hx
    clear hx hq hto p0 p1 p2 p3 c0 c1 hI hR hfed
    have o0 : w1.cell? ⟨gO, 0, none⟩ = some (.int .i64 0) := by simp [World.cell?, hO]
    have of0 : w1.frozen? ⟨gO, 0, none⟩ = false := by simp [World.frozen?, hO]
    have o1 : w1.cell? ⟨gO, 1, none⟩ = some (.bool false) := by simp [World.cell?, hO]
    have of1 : w1.frozen? ⟨gO, 1, none⟩ = false := by simp [World.frozen?, hO]
    have o2 : w1.cell? ⟨gO, 2, none⟩ = some (.int .i64 0) := by simp [World.cell?, hO]
    have of2 : w1.frozen? ⟨gO, 2, none⟩ = false := by simp [World.frozen?, hO]
    have o3 : w1.cell? ⟨gO, 3, none⟩ = some (.int .u64 0) := by simp [World.cell?, hO]
    have of3 : w1.frozen? ⟨gO, 3, none⟩ = false := by simp [World.frozen?, hO]
    have o4 : w1.cell? ⟨gO, 4, none⟩ = some (.slice none 0 0) := by simp [World.cell?, hO]
    have of4 : w1.frozen? ⟨gO, 4, none⟩ = false := by simp [World.frozen?, hO]
    have hO4 : (((((w1.setCell ⟨gO, 0, none⟩ (.int .i64 0)).setCell ⟨gO, 1, none⟩ (.bool false)).setCell ⟨gO, 2, none⟩ (.int .i64 r)).setCell ⟨gO, 3, none⟩ (.int .u64 0)).setCell ⟨gO, 4, none⟩ (.slice none 0 0)).heap[gO]? = some (.cells #[.int .i64 0, .bool false, .int .i64 r, .int .u64 0, .slice none 0 0] 37 (0, 0)) := setAll_all (vs := [.int .i64 0, .bool false, .int .i64 r, .int .u64 0, .slice none 0 0]) hO rfl
    have hB4 : ExtB gA w (((((w1.setCell ⟨gO, 0, none⟩ (.int .i64 0)).setCell ⟨gO, 1, none⟩ (.bool false)).setCell ⟨gO, 2, none⟩ (.int .i64 r)).setCell ⟨gO, 3, none⟩ (.int .u64 0)).setCell ⟨gO, 4, none⟩ (.slice none 0 0)) := ExtB.setAll hB [.int .i64 0, .bool false, .int .i64 r, .int .u64 0, .slice none 0 0] (.inr hgO') 0
    clear hO hB
    go_wp2
    generalize (((((w1.setCell ⟨gO, 0, none⟩ (.int .i64 0)).setCell ⟨gO, 1, none⟩ (.bool false)).setCell ⟨gO, 2, none⟩ (.int .i64 r)).setCell ⟨gO, 3, none⟩ (.int .u64 0)).setCell ⟨gO, 4, none⟩ (.slice none 0 0)) = wo at *
    clear o0 o1 o2 o3 o4 of0 of1 of2 of3 of4
    have o0 : wo.cell? ⟨gO, 0, none⟩ = some (.int .i64 0) := by simp [World.cell?, hO4]
    have o1 : wo.cell? ⟨gO, 1, none⟩ = some (.bool false) := by simp [World.cell?, hO4]
    have o2 : wo.cell? ⟨gO, 2, none⟩ = some (.int .i64 r) := by simp [World.cell?, hO4]
    have o3 : wo.cell? ⟨gO, 3, none⟩ = some (.int .u64 0) := by simp [World.cell?, hO4]
    have o4 : wo.cell? ⟨gO, 4, none⟩ = some (.slice none 0 0) := by simp [World.cell?, hO4]
    refine bodyPost_ret (v := .agg #[.int .i64 0, .bool false, .int .i64 r, .int .u64 0, .slice none 0 0]) (by simp [results, Try.results112, go_sem, o0, o1, o2, o3, o4]) rfl ?_
    rw [← HR.out]
    exact ⟨rfl, hB4⟩
set_option maxRecDepth 100000 in
set_option maxHeartbeats 4000000 in
theorem enext_no (gA gL m gT gM gP : Nat) (t me k u v d : Int) (ht1 : 0 ≤ t) (ht2 : t ≤ 64) (hm1 : 0 ≤ me) (hm2 : me ≤ 64) (k3 : ¬ k = 3) (k4 : ¬ k = 4) (k5 : ¬ k = 5) (k19 : ¬ k = 19) (k6 : ¬ k = 6) (f : Nat) (rs : List Res) (hf : rs.length < f) (w : World) (hD : DoAt m w gA gL rs) (hU : GoodR rs) (hP : w.heap[gP]? = some (.cells #[.int .i64 k, .int .i64 u, .int .i64 v, .int .u64 d] 24 (0, 0))) (hT : w.heap[gT]? = some (.cells #[.int .i64 t] 3 (0, 0))) (hM : w.heap[gM]? = some (.cells #[.int .i64 me] 3 (0, 0))) (nP : gP ≠ gA) (nT : gT ≠ gA) (nM : gM ≠ gA) :
    Calls Try.prog 112 #[doV gA gL, .pointer (some ⟨gP, 0, none⟩), .pointer (some ⟨gM, 0, none⟩), .pointer (some ⟨gT, 0, none⟩)] w (ENextP ((epochT t me k u f).run (stM Res.n) rs) gA w) := by
  have hlA : gA < w.heap.size := hD.sizes.1
  have hb1 : ∀ (W : World) (z : Int), (Instr.build 37 #[(2, .int .i64 z)]).run Try.prog W = .ok (.agg #[.int .i64 0, .bool false, .int .i64 z, .int .u64 0, .slice none 0 0]) W := fun _ _ => by kernel_rfl
  have hb4 : ∀ (W : World) (z : Bool), (Instr.build 37 #[(1, .bool z)]).run Try.prog W = .ok (.agg #[.int .i64 0, .bool z, .int .i64 0, .int .u64 0, .slice none 0 0]) W := fun _ _ => by kernel_rfl
  have hb2 : ∀ (W : World), (Instr.build 37 #[]).run Try.prog W = .ok (.agg #[.int .i64 0, .bool false, .int .i64 0, .int .u64 0, .slice none 0 0]) W := fun _ => by kernel_rfl
  have hb3 : ∀ (W : World), (Instr.build 37 #[(0, .int .i64 1)]).run Try.prog W = .ok (.agg #[.int .i64 1, .bool false, .int .i64 0, .int .u64 0, .slice none 0 0]) W := fun _ => by kernel_rfl
  have hfed := (epochT_fed t me k u f rs.length hf).run (l := rs) Res.n
  generalize hR : (epochT t me k u f).run (stM Res.n) rs = R at hfed
  go_enter Try.func112, Try.ntmps112
  go_upto_region 1 with (fail)
  have hx0 : Ext w (w.alloc (.cells #[.int .i64 0, .bool false, .int .i64 0, .int .u64 0, .slice none 0 0] 37)) := (Below.refl _ w).alloc (Nat.le_refl _) _
  have hO := heap_alloc_new w (.cells #[.int .i64 0, .bool false, .int .i64 0, .int .u64 0, .slice none 0 0] 37)
  generalize w.alloc (.cells #[.int .i64 0, .bool false, .int .i64 0, .int .u64 0, .slice none 0 0] 37) = W0 at *
  generalize hgO : w.heap.size = gO at *
  replace hP := heap_ext hP hx0
  replace hT := heap_ext hT hx0
  replace hM := heap_ext hM hx0
  replace hD := hD.ext hx0
  have hlA0 : gA < W0.heap.size := hD.sizes.1
  have hB := ExtB.of (g := gA) hx0
  have nO : gO ≠ gA := by omega
  have hgO' := Nat.le_of_eq hgO
  clear hx0 hgO hlA nP nT nM
  have p0 : W0.cell? ⟨gP, 0, none⟩ = some (.int .i64 k) := by simp [World.cell?, hP]
  have p1 : W0.cell? ⟨gP, 1, none⟩ = some (.int .i64 u) := by simp [World.cell?, hP]
  have p2 : W0.cell? ⟨gP, 2, none⟩ = some (.int .i64 v) := by simp [World.cell?, hP]
  have p3 : W0.cell? ⟨gP, 3, none⟩ = some (.int .u64 d) := by simp [World.cell?, hP]
  have c0 : W0.cell? ⟨gT, 0, none⟩ = some (.int .i64 t) := by simp [World.cell?, hT]
  have c1 : W0.cell? ⟨gM, 0, none⟩ = some (.int .i64 me) := by simp [World.cell?, hM]
  clear hP hT hM
  have hE0 : epochT t me k u f = .ret ⟨1, false, 0, 0⟩ := by simp [epochT, k3, k4, k5, k19, k6]
  rw [hE0] at hR
  simp only [PT.run] at hR
  have HR := Lib.hid hR
  clear hR hE0 hfed
  have kb3 : (k == 3) = false := by simp [k3]
  have kb4 : (k == 4) = false := by simp [k4]
  have kb5 : (k == 5) = false := by simp [k5]
  have kb19 : (k == 19) = false := by simp [k19]
  have kb6 : (k == 6) = false := by simp [k6]
  have o0 : W0.cell? ⟨gO, 0, none⟩ = some (.int .i64 0) := by simp [World.cell?, hO]
  have of0 : W0.frozen? ⟨gO, 0, none⟩ = false := by simp [World.frozen?, hO]
  have o1 : W0.cell? ⟨gO, 1, none⟩ = some (.bool false) := by simp [World.cell?, hO]
  have of1 : W0.frozen? ⟨gO, 1, none⟩ = false := by simp [World.frozen?, hO]
  have o2 : W0.cell? ⟨gO, 2, none⟩ = some (.int .i64 0) := by simp [World.cell?, hO]
  have of2 : W0.frozen? ⟨gO, 2, none⟩ = false := by simp [World.frozen?, hO]
  have o3 : W0.cell? ⟨gO, 3, none⟩ = some (.int .u64 0) := by simp [World.cell?, hO]
  have of3 : W0.frozen? ⟨gO, 3, none⟩ = false := by simp [World.frozen?, hO]
  have o4 : W0.cell? ⟨gO, 4, none⟩ = some (.slice none 0 0) := by simp [World.cell?, hO]
  have of4 : W0.frozen? ⟨gO, 4, none⟩ = false := by simp [World.frozen?, hO]
  have hO4 : (((((W0.setCell ⟨gO, 0, none⟩ (.int .i64 1)).setCell ⟨gO, 1, none⟩ (.bool false)).setCell ⟨gO, 2, none⟩ (.int .i64 0)).setCell ⟨gO, 3, none⟩ (.int .u64 0)).setCell ⟨gO, 4, none⟩ (.slice none 0 0)).heap[gO]? = some (.cells #[.int .i64 1, .bool false, .int .i64 0, .int .u64 0, .slice none 0 0] 37 (0, 0)) := setAll_all (vs := [.int .i64 1, .bool false, .int .i64 0, .int .u64 0, .slice none 0 0]) hO rfl
  have hB4 : ExtB gA w (((((W0.setCell ⟨gO, 0, none⟩ (.int .i64 1)).setCell ⟨gO, 1, none⟩ (.bool false)).setCell ⟨gO, 2, none⟩ (.int .i64 0)).setCell ⟨gO, 3, none⟩ (.int .u64 0)).setCell ⟨gO, 4, none⟩ (.slice none 0 0)) := ExtB.setAll hB [.int .i64 1, .bool false, .int .i64 0, .int .u64 0, .slice none 0 0] (.inr hgO') 0
  clear hO hB
  go_wp2
  generalize (((((W0.setCell ⟨gO, 0, none⟩ (.int .i64 1)).setCell ⟨gO, 1, none⟩ (.bool false)).setCell ⟨gO, 2, none⟩ (.int .i64 0)).setCell ⟨gO, 3, none⟩ (.int .u64 0)).setCell ⟨gO, 4, none⟩ (.slice none 0 0)) = wo at *
  clear o0 o1 o2 o3 o4 of0 of1 of2 of3 of4
  have o0 : wo.cell? ⟨gO, 0, none⟩ = some (.int .i64 1) := by simp [World.cell?, hO4]
  have o1 : wo.cell? ⟨gO, 1, none⟩ = some (.bool false) := by simp [World.cell?, hO4]
  have o2 : wo.cell? ⟨gO, 2, none⟩ = some (.int .i64 0) := by simp [World.cell?, hO4]
  have o3 : wo.cell? ⟨gO, 3, none⟩ = some (.int .u64 0) := by simp [World.cell?, hO4]
  have o4 : wo.cell? ⟨gO, 4, none⟩ = some (.slice none 0 0) := by simp [World.cell?, hO4]
  refine bodyPost_ret (v := .agg #[.int .i64 1, .bool false, .int .i64 0, .int .u64 0, .slice none 0 0]) (by simp [results, Try.results112, go_sem, o0, o1, o2, o3, o4]) rfl ?_
  rw [← HR.out]
  exact ⟨rfl, hB4⟩
theorem enext_prog (gA gL m gT gM gP : Nat) (t me k u v d : Int) (ht1 : 0 ≤ t) (ht2 : t ≤ 64) (hm1 : 0 ≤ me) (hm2 : me ≤ 64) (hu : k = 5 → 0 ≤ u ∧ u ≤ 1048576) (f : Nat) (rs : List Res) (hf : rs.length < f) (w : World) (hD : DoAt m w gA gL rs) (hU : GoodR rs) (hP : w.heap[gP]? = some (.cells #[.int .i64 k, .int .i64 u, .int .i64 v, .int .u64 d] 24 (0, 0))) (hT : w.heap[gT]? = some (.cells #[.int .i64 t] 3 (0, 0))) (hM : w.heap[gM]? = some (.cells #[.int .i64 me] 3 (0, 0))) (nP : gP ≠ gA) (nT : gT ≠ gA) (nM : gM ≠ gA) :
    Calls Try.prog 112 #[doV gA gL, .pointer (some ⟨gP, 0, none⟩), .pointer (some ⟨gM, 0, none⟩), .pointer (some ⟨gT, 0, none⟩)] w (ENextP ((epochT t me k u f).run (stM Res.n) rs) gA w) := by
  by_cases k3 : k = 3
  · subst k3; exact enext_pin gA gL m gT gM gP t me u v d ht1 ht2 hm1 hm2 f rs hf w hD hU hP hT hM nP nT nM
  by_cases k4 : k = 4
  · subst k4; exact enext_unpin gA gL m gT gM gP t me u v d ht1 ht2 hm1 hm2 f rs hf w hD hU hP hT hM nP nT nM
  by_cases k5 : k = 5
  · subst k5; exact enext_retire gA gL m gT gM gP t me u v d ht1 ht2 hm1 hm2 (hu rfl).1 (hu rfl).2 f rs hf w hD hU hP hT hM nP nT nM
  by_cases k19 : k = 19
  · subst k19; exact enext_adv gA gL m gT gM gP t me u v d ht1 ht2 hm1 hm2 f rs hf w hD hU hP hT hM nP nT nM
  by_cases k6 : k = 6
  · subst k6; exact enext_alloc gA gL m gT gM gP t me u v d ht1 ht2 hm1 hm2 f rs hf w hD hU hP hT hM nP nT nM
  exact enext_no gA gL m gT gM gP t me k u v d ht1 ht2 hm1 hm2 k3 k4 k5 k19 k6 f rs hf w hD hU hP hT hM nP nT nM
theorem boxes5e (w : World) (o0 o1 o2 o3 o4 : Obj) :
    Ext w (((((w.alloc o0).alloc o1).alloc o2).alloc o3).alloc o4) ∧ (((((w.alloc o0).alloc o1).alloc o2).alloc o3).alloc o4).heap[w.heap.size]? = some o0 ∧ (((((w.alloc o0).alloc o1).alloc o2).alloc o3).alloc o4).heap[w.heap.size + 1]? = some o1 ∧
      (((((w.alloc o0).alloc o1).alloc o2).alloc o3).alloc o4).heap[w.heap.size + 1 + 1]? = some o2 ∧ (((((w.alloc o0).alloc o1).alloc o2).alloc o3).alloc o4).heap[w.heap.size + 1 + 1 + 1]? = some o3 ∧ (((((w.alloc o0).alloc o1).alloc o2).alloc o3).alloc o4).heap[w.heap.size + 1 + 1 + 1 + 1]? = some o4 := by
  obtain ⟨h, h0, h1, h2, h3⟩ := boxes4n w o0 o1 o2 o3
  have hx : Ext ((((w.alloc o0).alloc o1).alloc o2).alloc o3) (((((w.alloc o0).alloc o1).alloc o2).alloc o3).alloc o4) := (Below.refl _ _).alloc (Nat.le_refl _) _
  have h4 := heap_alloc_new ((((w.alloc o0).alloc o1).alloc o2).alloc o3) o4
  rw [show ((((w.alloc o0).alloc o1).alloc o2).alloc o3).heap.size = w.heap.size + 1 + 1 + 1 + 1 by simp] at h4
  exact ⟨h.trans hx, heap_ext h0 hx, heap_ext h1 hx, heap_ext h2 hx, heap_ext h3 hx, h4⟩
/-- what play.Run answers of it -/
theorem erun_any (f : Nat) (t me k u v d : Int) (ht1 : 0 ≤ t) (ht2 : t ≤ 64) (hm1 : 0 ≤ me) (hm2 : me ≤ 64) (hu : k = 5 → 0 ≤ u ∧ u ≤ 1048576) (B : Option Addr) (n kc : Nat) (rs : List Res) (hf : rs.length < f) (W : World) (gT gM gP : Nat) (hlog : LogV W B n kc rs) (hU : GoodR rs) (hT : W.heap[gT]? = some (.cells #[.int .i64 t] 3 (0, 0))) (hM : W.heap[gM]? = some (.cells #[.int .i64 me] 3 (0, 0))) (hP : W.heap[gP]? = some (.cells #[.int .i64 k, .int .i64 u, .int .i64 v, .int .u64 d] 24 (0, 0))) :
    Calls Try.prog 104 #[.func (.func 112) #[] #[.pointer (some ⟨gP, 0, none⟩), .pointer (some ⟨gM, 0, none⟩), .pointer (some ⟨gT, 0, none⟩)], .slice B n kc] W fun e w' =>
      e = (nextT (epochT t me k u f) (rs.map Res.n)).fin ∧ Ext W w' := by
  have hlT := (Array.getElem?_eq_some_iff.1 hT).1
  have hlM := (Array.getElem?_eq_some_iff.1 hM).1
  have hlP := (Array.getElem?_eq_some_iff.1 hP).1
  have hmap := run_stL_map (T := epochT t me k u f) (rs := rs)
  have hfed := (epochT_fed t me k u f rs.length hf).run (l := rs) Res.n
  have hprog := fun (gA gL : Nat) (W' : World) (hx : Ext W W') (h1 : W.heap.size ≤ gA) (hD : DoAt W.heap.size W' gA gL rs) => enext_prog gA gL _ gT gM gP t me k u v d ht1 ht2 hm1 hm2 hu f rs hf W' hD hU (heap_ext hP hx) (heap_ext hT hx) (heap_ext hM hx) (by omega) (by omega) (by omega)
  cases hN : (epochT t me k u f).run (stM Res.n) rs with
  | out => exact absurd hN hfed
  | stop x =>
    rw [hN] at hmap
    have e1 : nextT (epochT t me k u f) (rs.map Res.n) = .stop x.acc := by unfold nextT; rw [hmap]
    rw [e1]
    refine run_stop 112 #[.pointer (some ⟨gP, 0, none⟩), .pointer (some ⟨gM, 0, none⟩), .pointer (some ⟨gT, 0, none⟩)] B n kc rs x.acc W hlog Try.call112 fun gA gL W' hx h1 h2 hD => (hprog gA gL W' hx h1 hD).mono ?_
    intro e w' h
    rw [hN] at h
    exact h
  | ret o s' =>
    rw [hN] at hmap
    have e1 : nextT (epochT t me k u f) (rs.map Res.n) = .done o := by unfold nextT; rw [hmap]
    rw [e1]
    refine run_done 112 #[.pointer (some ⟨gP, 0, none⟩), .pointer (some ⟨gM, 0, none⟩), .pointer (some ⟨gT, 0, none⟩)] B n kc rs o W hlog Try.call112 fun gA gL W' hx h1 h2 hD => (hprog gA gL W' hx h1 hD).mono ?_
    intro e w' h
    rw [hN] at h
    exact h
set_option maxRecDepth 100000 in
set_option maxHeartbeats 4000000 in
theorem enext_any (f : Nat) (t c me k u v d : Int) (ht1 : 0 ≤ t) (ht2 : t ≤ 64) (hm1 : 0 ≤ me) (hm2 : me ≤ 64) (hu : k = 5 → 0 ≤ u ∧ u ≤ 1048576) (B : Option Addr) (n kc : Nat) (rs : List Res) (hf : rs.length < f) (w : World) (hlog : LogV w B n kc rs) (hU : GoodR rs) (hx : ∀ x, nextT (epochT t me k u f) (rs.map Res.n) = .stop x → ∃ a : Ask, x = a.acc ∧ a.Ok) :
    Calls Try.prog 17 #[.int .i64 t, .int .i64 c, .int .i64 me, .agg #[.int .i64 k, .int .i64 u, .int .i64 v, .int .u64 d], .slice B n kc] w fun e w' => e = (nextT (epochT t me k u f) (rs.map Res.n)).fin ∧ Ext w w' := by
  have hmf : ∀ (fn : Fn) (first cap : Array Value) (w : World), (Instr.makeFunc fn first cap).run Try.prog w = .ok (.func fn first cap) w := fun _ _ _ _ => rfl
  have hrun := fun W gT gM gP h1 h2 h3 h4 => erun_any f t me k u v d ht1 ht2 hm1 hm2 hu B n kc rs hf W gT gM gP h1 hU h2 h3 h4
  generalize nextT (epochT t me k u f) (rs.map Res.n) = E at *
  go_enter Try.func17, Try.ntmps17
  go_upto_region 1 with (fail)
  obtain ⟨hW, hT, hM, hP, hE, hO⟩ := boxes5e w (.cells #[.int .i64 t] 3) (.cells #[.int .i64 me] 3) (.cells #[.int .i64 k, .int .i64 u, .int .i64 v, .int .u64 d] 24) (.cells #[.int .i64 0, .int .i64 0, .int .u64 0, .int .u64 0, .slice none 0 0, .slice none 0 0] 33) (.cells #[.int .i64 0, .bool false, .int .i64 0, .int .u64 0, .slice none 0 0] 37)
  generalize ((((w.alloc (.cells #[.int .i64 t] 3)).alloc (.cells #[.int .i64 me] 3)).alloc (.cells #[.int .i64 k, .int .i64 u, .int .i64 v, .int .u64 d] 24)).alloc (.cells #[.int .i64 0, .int .i64 0, .int .u64 0, .int .u64 0, .slice none 0 0, .slice none 0 0] 33)).alloc (.cells #[.int .i64 0, .bool false, .int .i64 0, .int .u64 0, .slice none 0 0] 37) = W at *
  have hlt : w.heap.size + 1 + 1 + 1 + 1 < W.heap.size := (Array.getElem?_eq_some_iff.1 hO).1
  have hrun2 := hrun W _ _ _ (hlog.ext hW) hT hM hP
  clear hrun
  go_wp2_with fail
  refine hrun2.mono ?_
  rintro e w1 ⟨he, hx2⟩
  obtain ⟨x0, x1, x2, x3, x4, x5, x6, x7, x8, x9, o0, o1, o2, o3, b, hend⟩ : ∃ x0 x1 x2 x3 x4 x5 x6 x7 x8 x9 o0 o1 o2 o3 b, E.fin = .returned (.tuple #[.agg #[.int .i64 x0, .int .i64 x1, .int .u64 x2, .int .u64 x3, .slice x4 x5 x6, .slice x7 x8 x9], .agg #[.int .i64 o0, .bool o1, .int .i64 o2, .int .u64 o3, .slice none 0 0], .bool b]) := by
    cases E with
    | stop x => exact ⟨_, _, _, _, _, _, _, _, _, _, _, _, _, _, _, rfl⟩
    | done o => exact ⟨_, _, _, _, _, _, _, _, _, _, _, _, _, _, _, rfl⟩
  rw [hend] at he
  subst he
  have hE1 := heap_ext hE hx2
  have hO1 := heap_ext hO hx2
  have hx1 := hW.trans hx2
  have HE := Lib.hid hend
  clear hE hO hP hT hM hx hW hlog hrun2 hend hx2
  have e0 : w1.cell? ⟨w.heap.size + 1 + 1 + 1, 0, none⟩ = some (.int .i64 0) := by simp [World.cell?, hE1]
  have ef0 : w1.frozen? ⟨w.heap.size + 1 + 1 + 1, 0, none⟩ = false := by simp [World.frozen?, hE1]
  have e1 : w1.cell? ⟨w.heap.size + 1 + 1 + 1, 1, none⟩ = some (.int .i64 0) := by simp [World.cell?, hE1]
  have ef1 : w1.frozen? ⟨w.heap.size + 1 + 1 + 1, 1, none⟩ = false := by simp [World.frozen?, hE1]
  have e2 : w1.cell? ⟨w.heap.size + 1 + 1 + 1, 2, none⟩ = some (.int .u64 0) := by simp [World.cell?, hE1]
  have ef2 : w1.frozen? ⟨w.heap.size + 1 + 1 + 1, 2, none⟩ = false := by simp [World.frozen?, hE1]
  have e3 : w1.cell? ⟨w.heap.size + 1 + 1 + 1, 3, none⟩ = some (.int .u64 0) := by simp [World.cell?, hE1]
  have ef3 : w1.frozen? ⟨w.heap.size + 1 + 1 + 1, 3, none⟩ = false := by simp [World.frozen?, hE1]
  have e4 : w1.cell? ⟨w.heap.size + 1 + 1 + 1, 4, none⟩ = some (.slice none 0 0) := by simp [World.cell?, hE1]
  have ef4 : w1.frozen? ⟨w.heap.size + 1 + 1 + 1, 4, none⟩ = false := by simp [World.frozen?, hE1]
  have e5 : w1.cell? ⟨w.heap.size + 1 + 1 + 1, 5, none⟩ = some (.slice none 0 0) := by simp [World.cell?, hE1]
  have ef5 : w1.frozen? ⟨w.heap.size + 1 + 1 + 1, 5, none⟩ = false := by simp [World.frozen?, hE1]
  have q0 : w1.cell? ⟨w.heap.size + 1 + 1 + 1 + 1, 0, none⟩ = some (.int .i64 0) := by simp [World.cell?, hO1]
  have qf0 : w1.frozen? ⟨w.heap.size + 1 + 1 + 1 + 1, 0, none⟩ = false := by simp [World.frozen?, hO1]
  have q1 : w1.cell? ⟨w.heap.size + 1 + 1 + 1 + 1, 1, none⟩ = some (.bool false) := by simp [World.cell?, hO1]
  have qf1 : w1.frozen? ⟨w.heap.size + 1 + 1 + 1 + 1, 1, none⟩ = false := by simp [World.frozen?, hO1]
  have q2 : w1.cell? ⟨w.heap.size + 1 + 1 + 1 + 1, 2, none⟩ = some (.int .i64 0) := by simp [World.cell?, hO1]
  have qf2 : w1.frozen? ⟨w.heap.size + 1 + 1 + 1 + 1, 2, none⟩ = false := by simp [World.frozen?, hO1]
  have q3 : w1.cell? ⟨w.heap.size + 1 + 1 + 1 + 1, 3, none⟩ = some (.int .u64 0) := by simp [World.cell?, hO1]
  have qf3 : w1.frozen? ⟨w.heap.size + 1 + 1 + 1 + 1, 3, none⟩ = false := by simp [World.frozen?, hO1]
  have q4 : w1.cell? ⟨w.heap.size + 1 + 1 + 1 + 1, 4, none⟩ = some (.slice none 0 0) := by simp [World.cell?, hO1]
  have qf4 : w1.frozen? ⟨w.heap.size + 1 + 1 + 1 + 1, 4, none⟩ = false := by simp [World.frozen?, hO1]
  have hPm : (setAll (w.heap.size + 1 + 1 + 1 + 1) 0 [.int .i64 o0, .bool o1, .int .i64 o2, .int .u64 o3, .slice none 0 0] (setAll (w.heap.size + 1 + 1 + 1) 0 [.int .i64 x0, .int .i64 x1, .int .u64 x2, .int .u64 x3, .slice x4 x5 x6, .slice x7 x8 x9] w1)).heap[w.heap.size + 1 + 1 + 1 + 1]? = some (.cells #[.int .i64 o0, .bool o1, .int .i64 o2, .int .u64 o3, .slice none 0 0] 37 (0, 0)) := setAll_all (vs := [.int .i64 o0, .bool o1, .int .i64 o2, .int .u64 o3, .slice none 0 0]) ((setAll_other (g := w.heap.size + 1 + 1 + 1) (by omega) [.int .i64 x0, .int .i64 x1, .int .u64 x2, .int .u64 x3, .slice x4 x5 x6, .slice x7 x8 x9] 0 w1).trans hO1) rfl
  have hEm : (setAll (w.heap.size + 1 + 1 + 1 + 1) 0 [.int .i64 o0, .bool o1, .int .i64 o2, .int .u64 o3, .slice none 0 0] (setAll (w.heap.size + 1 + 1 + 1) 0 [.int .i64 x0, .int .i64 x1, .int .u64 x2, .int .u64 x3, .slice x4 x5 x6, .slice x7 x8 x9] w1)).heap[w.heap.size + 1 + 1 + 1]? = some (.cells #[.int .i64 x0, .int .i64 x1, .int .u64 x2, .int .u64 x3, .slice x4 x5 x6, .slice x7 x8 x9] 33 (0, 0)) := (setAll_other (g := w.heap.size + 1 + 1 + 1 + 1) (by omega) [.int .i64 o0, .bool o1, .int .i64 o2, .int .u64 o3, .slice none 0 0] 0 (setAll (w.heap.size + 1 + 1 + 1) 0 [.int .i64 x0, .int .i64 x1, .int .u64 x2, .int .u64 x3, .slice x4 x5 x6, .slice x7 x8 x9] w1)).trans (setAll_all (vs := [.int .i64 x0, .int .i64 x1, .int .u64 x2, .int .u64 x3, .slice x4 x5 x6, .slice x7 x8 x9]) hE1 rfl)
  have hF : Ext w (setAll (w.heap.size + 1 + 1 + 1 + 1) 0 [.int .i64 o0, .bool o1, .int .i64 o2, .int .u64 o3, .slice none 0 0] (setAll (w.heap.size + 1 + 1 + 1) 0 [.int .i64 x0, .int .i64 x1, .int .u64 x2, .int .u64 x3, .slice x4 x5 x6, .slice x7 x8 x9] w1)) := setAll_ext (g := w.heap.size + 1 + 1 + 1 + 1) (setAll_ext (g := w.heap.size + 1 + 1 + 1) hx1 (by omega)) (by omega)
  simp only [setAll] at hPm hEm hF
  clear hE1 hO1 hx1
  go_wp2
  generalize (((((((((((w1.setCell ⟨w.heap.size + 1 + 1 + 1, 0, none⟩ (.int .i64 x0)).setCell ⟨w.heap.size + 1 + 1 + 1, 1, none⟩ (.int .i64 x1)).setCell ⟨w.heap.size + 1 + 1 + 1, 2, none⟩ (.int .u64 x2)).setCell ⟨w.heap.size + 1 + 1 + 1, 3, none⟩ (.int .u64 x3)).setCell ⟨w.heap.size + 1 + 1 + 1, 4, none⟩ (.slice x4 x5 x6)).setCell ⟨w.heap.size + 1 + 1 + 1, 5, none⟩ (.slice x7 x8 x9)).setCell ⟨w.heap.size + 1 + 1 + 1 + 1, 0, none⟩ (.int .i64 o0)).setCell ⟨w.heap.size + 1 + 1 + 1 + 1, 1, none⟩ (.bool o1)).setCell ⟨w.heap.size + 1 + 1 + 1 + 1, 2, none⟩ (.int .i64 o2)).setCell ⟨w.heap.size + 1 + 1 + 1 + 1, 3, none⟩ (.int .u64 o3)).setCell ⟨w.heap.size + 1 + 1 + 1 + 1, 4, none⟩ (.slice none 0 0)) = wf at *
  clear e0 e1 e2 e3 e4 e5 ef0 ef1 ef2 ef3 ef4 ef5 q0 q1 q2 q3 q4 qf0 qf1 qf2 qf3 qf4
  have e0 : wf.cell? ⟨w.heap.size + 1 + 1 + 1, 0, none⟩ = some (.int .i64 x0) := by simp [World.cell?, hEm]
  have e1 : wf.cell? ⟨w.heap.size + 1 + 1 + 1, 1, none⟩ = some (.int .i64 x1) := by simp [World.cell?, hEm]
  have e2 : wf.cell? ⟨w.heap.size + 1 + 1 + 1, 2, none⟩ = some (.int .u64 x2) := by simp [World.cell?, hEm]
  have e3 : wf.cell? ⟨w.heap.size + 1 + 1 + 1, 3, none⟩ = some (.int .u64 x3) := by simp [World.cell?, hEm]
  have e4 : wf.cell? ⟨w.heap.size + 1 + 1 + 1, 4, none⟩ = some (.slice x4 x5 x6) := by simp [World.cell?, hEm]
  have e5 : wf.cell? ⟨w.heap.size + 1 + 1 + 1, 5, none⟩ = some (.slice x7 x8 x9) := by simp [World.cell?, hEm]
  have q0 : wf.cell? ⟨w.heap.size + 1 + 1 + 1 + 1, 0, none⟩ = some (.int .i64 o0) := by simp [World.cell?, hPm]
  have q1 : wf.cell? ⟨w.heap.size + 1 + 1 + 1 + 1, 1, none⟩ = some (.bool o1) := by simp [World.cell?, hPm]
  have q2 : wf.cell? ⟨w.heap.size + 1 + 1 + 1 + 1, 2, none⟩ = some (.int .i64 o2) := by simp [World.cell?, hPm]
  have q3 : wf.cell? ⟨w.heap.size + 1 + 1 + 1 + 1, 3, none⟩ = some (.int .u64 o3) := by simp [World.cell?, hPm]
  have q4 : wf.cell? ⟨w.heap.size + 1 + 1 + 1 + 1, 4, none⟩ = some (.slice none 0 0) := by simp [World.cell?, hPm]
  refine bodyPost_ret (v := .tuple #[.agg #[.int .i64 x0, .int .i64 x1, .int .u64 x2, .int .u64 x3, .slice x4 x5 x6, .slice x7 x8 x9], .agg #[.int .i64 o0, .bool o1, .int .i64 o2, .int .u64 o3, .slice none 0 0], .bool b]) (by simp [results, Try.results17, go_sem, e0, e1, e2, e3, e4, e5, q0, q1, q2, q3, q4]) rfl ⟨HE.out.symm, hF⟩
end Go.Proofs.Ytjokaginolpbeaa

namespace Go.Proofs.Ytjokaginolpbeaa
open Go.RowKit

/-! Worlds behind Pop and Push. -/
theorem Fit.put {X : WldK} {m : Nat} (h : Fit X m) (i a : Int) : Fit (X.put i a) m := ⟨h.pos, h.le, h.root, by rw [put_len]; exact h.ws, h.k0, h.k1⟩
theorem WOk.put {X : WldK} (h : WOk X) (i : Int) {a : Int} (ha : U64 a) : WOk (X.put i a) := ⟨h.1.put i a, put_u h.2.1 ha, by rw [put_len]; exact h.2.2⟩
theorem WOk.pop {X : WldK} (h : WOk X) (t : Nat) : WOk (popX X t) := h.put _ (topN_u _ _)
theorem new_wok {t c : Nat} (t1 : 1 ≤ t) (t2 : t ≤ 64) (hc : c ≤ 1000) : WOk (newW t c) := by
  have hd := new_dim (t := t) (c := c) t1 t2 (by omega)
  refine ⟨⟨?_, ?_, ⟨by simp [newW], by simp [newW]⟩, ?_, ?_, ?_⟩, hd.u, ?_⟩
  · simp only [newW, newN]; rw [if_pos (by omega)]; omega
  · simp only [newW, newN]; rw [if_pos (by omega)]; omega
  · rw [hd.len]; unfold memL; omega
  · intro k hk; obtain ⟨_, rfl⟩ := List.mem_replicate.1 hk; simp
  · intro k hk; obtain ⟨_, rfl⟩ := List.mem_replicate.1 hk; simp
  · rw [hd.len]; unfold memL; omega
end Go.Proofs.Ytjokaginolpbeaa

namespace Go.Proofs.Ytjokaginolpbeaa
open Go.RowKit

/-! An operation on epochs, stepping alone. -/
theorem aloneN_ok {P : List Int → NextE} {me : Int} (hP : ∀ (ns : List Int) (x : Acc), U64s ns → P ns = .stop x → ∃ a : Ask, x = a.acc ∧ a.Ok) : ∀ (n : Nat) (X : WldK) (ns : List Int), WOk X → U64s ns → WOk (aloneN P me n X ns).1 ∧ (aloneN P me n X ns).1.T = X.T ∧ (aloneN P me n X ns).1.C = X.C
  | 0, X, ns, h, _ => ⟨h, rfl, rfl⟩
  | n + 1, X, ns, h, hn => by
    unfold aloneN
    cases hp : P ns with
    | done o => exact ⟨h, rfl, rfl⟩
    | stop x =>
      obtain ⟨a, rfl, ha⟩ := hP ns x hn hp
      obtain ⟨h1, h2, h3, h4⟩ := h.step me ha
      have h5 := aloneN_ok (me := me) hP n (doK X me a.K false) (ns ++ [(doR X a.K false).N]) h1 (fun m hm => by
        rcases List.mem_append.1 hm with hm | hm
        · exact hn m hm
        · rw [List.mem_singleton.1 hm]; exact h2)
      exact ⟨h5.1, h5.2.1.trans h3, h5.2.2.trans h4⟩
theorem epochN_ok (t me k u : Int) (f : Nat) (hu : k = 5 → U64 u) (ns : List Int) (x : Acc) (h : U64s ns) (hx : nextT (epochT t me k u f) ns = .stop x) : ∃ a : Ask, x = a.acc ∧ a.Ok := by
  unfold nextT at hx
  cases hr : (epochT t me k u f).run stL ns with
  | ret o l => rw [hr] at hx; simp at hx
  | out => rw [hr] at hx; simp at hx
  | stop y => rw [hr] at hx; simp only [NextE.stop.injEq] at hx; exact ⟨y, hx.symm, (epochT_ok t me k u f hu).stop h hr⟩
theorem eal_any (f : Nat) (X : WldK) (t : Nat) (hT : X.T = (t : Int)) (ht2 : t ≤ 64) (hX : WOk X) (wv : Value) (me k u v d M : Int) (hm1 : 0 ≤ me) (hm2 : me ≤ 64) (hu : k = 5 → 0 ≤ u ∧ u ≤ 1048576) (most : Nat) (hM : (most : Int) = M) (hf : most < f) (hm : most ≤ 900) (w : World) (hV : WldV w wv X) :
    Calls Try.prog 22 #[wv, .int .i64 me, .agg #[.int .i64 k, .int .i64 u, .int .i64 v, .int .u64 d], .int .i64 M] w fun e w' => ∃ v', e = .returned (.tuple #[v', .agg (aloneN (nextT (epochT t me k u f)) me (most + 1) X []).2.1.cells, .bool (aloneN (nextT (epochT t me k u f)) me (most + 1) X []).2.2]) ∧ WldV w' v' (aloneN (nextT (epochT t me k u f)) me (most + 1) X []).1 ∧ Ext w w' := by
  subst hM
  have hu2 : k = 5 → U64 u := fun h => by have := hu h; unfold U64; omega
  refine ealone_any (nextT (epochT t me k u f)) X wv me k u v d most hm w hV hX ?_ (fun ns x h hx => epochN_ok _ _ _ _ _ hu2 ns x h hx)
  intro T C B n kc rs w' hT' hC hl hlog hG
  obtain rfl : T = (t : Int) := hT'.trans hT
  exact enext_any f _ _ _ _ _ _ _ (by omega) (by omega) hm1 hm2 hu B n kc rs (by omega) w' hlog hG (fun x hx => epochN_ok _ _ _ _ _ hu2 _ x hG.u64s hx)
end Go.Proofs.Ytjokaginolpbeaa

namespace Go.Proofs.Ytjokaginolpbeaa
open Go.RowKit

/-! The example of chapter 13, in plain. -/
def exP (me k u : Int) : List Int → NextE := nextT (epochT ((2 : Nat) : Int) me k u 100)
def exV : WldK × OutN × Bool := aloneN (exP 0 6 0) 0 (99 + 1) (newW 2 1) []
def exU : WldK × OutN × Bool := aloneN (exP 0 5 1) 0 (99 + 1) exV.1 []
def exX : WldK × OutN × Bool := aloneN (exP 1 6 0) 1 (99 + 1) exU.1 []
def exD : WldK × OutN × Bool := aloneN (exP 0 6 0) 0 (99 + 1) exX.1 []
def exY : WldK × OutN × Bool := aloneN (exP 1 3 0) 1 (9 + 1) (newW 2 1) []
theorem exV_eq : exV.2 = (⟨0, false, 1, 0⟩, true) := by kernel_rfl
theorem exU_eq : exU.2 = (⟨0, false, 0, 0⟩, true) := by kernel_rfl
theorem exX_eq : exX.2 = (⟨0, false, 1, 0⟩, true) := by kernel_rfl
theorem exD_eq : exD.2 = (⟨0, false, 0, 0⟩, true) := by kernel_rfl
theorem exY_eq : exY.2 = (⟨0, false, 0, 0⟩, true) := by kernel_rfl
theorem exY_len : exY.1.ws.length = 18 := by kernel_rfl
theorem exY_at : exY.1.at 9 = 1 := by kernel_rfl
theorem ex0 : WOk (newW 2 1) ∧ (newW 2 1).T = ((2 : Nat) : Int) := ⟨new_wok (by omega) (by omega) (by omega), rfl⟩
theorem ex_ok {X : WldK} (h : WOk X ∧ X.T = ((2 : Nat) : Int)) (me k u : Int) (hu : k = 5 → U64 u) (n : Nat) : WOk (aloneN (exP me k u) me n X []).1 ∧ (aloneN (exP me k u) me n X []).1.T = ((2 : Nat) : Int) := by
  obtain ⟨h1, h2, -⟩ := aloneN_ok (P := exP me k u) (me := me) (fun ns x h hx => epochN_ok _ _ _ _ _ hu ns x h hx) n X [] h.1 (fun m hm => by cases hm)
  exact ⟨h1, h2.trans h.2⟩
theorem exV_ok : WOk exV.1 ∧ exV.1.T = ((2 : Nat) : Int) := ex_ok ex0 0 6 0 (by omega) _
theorem exU_ok : WOk exU.1 ∧ exU.1.T = ((2 : Nat) : Int) := ex_ok exV_ok 0 5 1 (fun _ => by unfold U64; omega) _
theorem exX_ok : WOk exX.1 ∧ exX.1.T = ((2 : Nat) : Int) := ex_ok exU_ok 1 6 0 (by omega) _
theorem exc_V (wv : Value) (w : World) (hV : WldV w wv (newW 2 1)) : Calls Try.prog 22 #[wv, .int .i64 0, .agg #[.int .i64 6, .int .i64 0, .int .i64 0, .int .u64 0], .int .i64 99] w fun e w' => ∃ v', e = .returned (.tuple #[v', .agg #[.int .i64 0, .bool false, .int .i64 1, .int .u64 0, .slice none 0 0], .bool true]) ∧ WldV w' v' exV.1 ∧ Ext w w' := by
  have h := eal_any 100 (newW 2 1) 2 ex0.2 (by omega) ex0.1 wv 0 6 0 0 0 99 (by omega) (by omega) (by omega) 99 rfl (by omega) (by omega) w hV
  rw [show aloneN (nextT (epochT ((2 : Nat) : Int) 0 6 0 100)) 0 (99 + 1) (newW 2 1) [] = exV from rfl, exV_eq] at h
  exact h
theorem exc_U (wv : Value) (w : World) (hV : WldV w wv (exV.1)) : Calls Try.prog 22 #[wv, .int .i64 0, .agg #[.int .i64 5, .int .i64 1, .int .i64 0, .int .u64 0], .int .i64 99] w fun e w' => ∃ v', e = .returned (.tuple #[v', .agg #[.int .i64 0, .bool false, .int .i64 0, .int .u64 0, .slice none 0 0], .bool true]) ∧ WldV w' v' exU.1 ∧ Ext w w' := by
  have h := eal_any 100 (exV.1) 2 exV_ok.2 (by omega) exV_ok.1 wv 0 5 1 0 0 99 (by omega) (by omega) (by omega) 99 rfl (by omega) (by omega) w hV
  rw [show aloneN (nextT (epochT ((2 : Nat) : Int) 0 5 1 100)) 0 (99 + 1) (exV.1) [] = exU from rfl, exU_eq] at h
  exact h
theorem exc_X (wv : Value) (w : World) (hV : WldV w wv (exU.1)) : Calls Try.prog 22 #[wv, .int .i64 1, .agg #[.int .i64 6, .int .i64 0, .int .i64 0, .int .u64 0], .int .i64 99] w fun e w' => ∃ v', e = .returned (.tuple #[v', .agg #[.int .i64 0, .bool false, .int .i64 1, .int .u64 0, .slice none 0 0], .bool true]) ∧ WldV w' v' exX.1 ∧ Ext w w' := by
  have h := eal_any 100 (exU.1) 2 exU_ok.2 (by omega) exU_ok.1 wv 1 6 0 0 0 99 (by omega) (by omega) (by omega) 99 rfl (by omega) (by omega) w hV
  rw [show aloneN (nextT (epochT ((2 : Nat) : Int) 1 6 0 100)) 1 (99 + 1) (exU.1) [] = exX from rfl, exX_eq] at h
  exact h
theorem exc_D (wv : Value) (w : World) (hV : WldV w wv (exX.1)) : Calls Try.prog 22 #[wv, .int .i64 0, .agg #[.int .i64 6, .int .i64 0, .int .i64 0, .int .u64 0], .int .i64 99] w fun e w' => ∃ v', e = .returned (.tuple #[v', .agg #[.int .i64 0, .bool false, .int .i64 0, .int .u64 0, .slice none 0 0], .bool true]) ∧ WldV w' v' exD.1 ∧ Ext w w' := by
  have h := eal_any 100 (exX.1) 2 exX_ok.2 (by omega) exX_ok.1 wv 0 6 0 0 0 99 (by omega) (by omega) (by omega) 99 rfl (by omega) (by omega) w hV
  rw [show aloneN (nextT (epochT ((2 : Nat) : Int) 0 6 0 100)) 0 (99 + 1) (exX.1) [] = exD from rfl, exD_eq] at h
  exact h
theorem exc_Y (wv : Value) (w : World) (hV : WldV w wv (newW 2 1)) : Calls Try.prog 22 #[wv, .int .i64 1, .agg #[.int .i64 3, .int .i64 0, .int .i64 0, .int .u64 0], .int .i64 9] w fun e w' => ∃ v', e = .returned (.tuple #[v', .agg #[.int .i64 0, .bool false, .int .i64 0, .int .u64 0, .slice none 0 0], .bool true]) ∧ WldV w' v' exY.1 ∧ Ext w w' := by
  have h := eal_any 100 (newW 2 1) 2 ex0.2 (by omega) ex0.1 wv 1 3 0 0 0 9 (by omega) (by omega) (by omega) 9 rfl (by omega) (by omega) w hV
  rw [show aloneN (nextT (epochT ((2 : Nat) : Int) 1 3 0 100)) 1 (9 + 1) (newW 2 1) [] = exY from rfl, exY_eq] at h
  exact h
end Go.Proofs.Ytjokaginolpbeaa

namespace Go.Proofs.Ytjokaginolpbeaa
open Go.RowKit

/-! wealdref11: a log that is gone through. -/
def Res.zero : Res := ⟨0, none, 0, 0, false⟩
/-- how far a log is gone through, whether it stopped, and what is asked -/
structure Cu where
  i : Nat
  stop : Bool
  x : Acc
def Cu.told (rs : List Res) (s : Cu) : Res := if s.stop then Res.zero else (rs[s.i]?).getD Res.zero
def Cu.next (rs : List Res) (y : Acc) (s : Cu) : Cu := if s.stop then s else if s.i < rs.length then ⟨s.i + 1, false, s.x⟩ else ⟨s.i, true, y⟩
def curCells (A : Option Addr) (n c : Nat) (s : Cu) : List Value := [.slice A n c, .int .i64 s.i, .bool s.stop, .int .i64 s.x.kind, .int .i64 s.x.cell, .int .u64 s.x.a, .int .u64 s.x.b, .slice s.x.D s.x.dk s.x.dc, .slice s.x.W s.x.wk s.x.wc]
def CurAt (w : World) (g : Nat) (A : Option Addr) (n c : Nat) (s : Cu) : Prop := w.heap[g]? = some (.cells (curCells A n c s).toArray 142 (0, 0))
end Go.Proofs.Ytjokaginolpbeaa

namespace Go.Proofs.Ytjokaginolpbeaa
open Go.RowKit

/-! wealdref11.Cur: Load, Store, Cas. -/
theorem LogV.cur {w w' : World} {g : Nat} {A : Option Addr} {n c : Nat} {rs : List Res} (h : LogV w A n c rs) (hx : ExtB g w w') (hsep : ∀ a, A = some a → 0 < n → a.block ≠ g) : LogV w' A n c rs :=
  ⟨h.len, h.small, fun j r hr => let ⟨a, ha, h1⟩ := h.at_ j r hr; ⟨a, ha, h1.extB hx (hsep a ha (by have := (List.getElem?_eq_some_iff.1 hr).1; have := h.len; omega))⟩⟩
theorem CurAt.ext {w w' : World} {g : Nat} {A : Option Addr} {n c : Nat} {s : Cu} (h : CurAt w g A n c s) (hx : Ext w w') : CurAt w' g A n c s := heap_ext h hx
end Go.Proofs.Ytjokaginolpbeaa

namespace Go.Proofs.Ytjokaginolpbeaa
open Go.RowKit

/-! The document's text (wealdref08), and 'shown'. -/
end Go.Proofs.Ytjokaginolpbeaa

namespace Go.Proofs.Ytjokaginolpbeaa
open Go.RowKit

/-! wealdref12.Pop, wealdref12.Push: what popN and pushN say. -/
def Cu.after (rs : List Res) (s : Cu) : ProgE → Cu
  | .stop x => ⟨rs.length, true, x⟩
  | .ret _ k => ⟨k, false, s.x⟩
def ProgE.val : ProgE → Int
  | .stop _ => 0
  | .ret r _ => r
theorem Cu.on {rs : List Res} {s : Cu} {y : Acc} {r : Res} {R : List Res} (hs : s.stop = false) (h : rs.drop s.i = r :: R) : s.told rs = r ∧ s.next rs y = ⟨s.i + 1, false, s.x⟩ ∧ rs.drop (s.i + 1) = R := by
  have h1 : s.i < rs.length := by
    rcases Nat.lt_or_ge s.i rs.length with h' | h'
    · exact h'
    · rw [List.drop_eq_nil_of_le h'] at h; cases h
  have h2 : rs[s.i]? = some r := by rw [List.getElem?_eq_getElem h1]; rw [List.drop_eq_getElem_cons h1] at h; injection h with h _; rw [h]
  refine ⟨by simp [Cu.told, hs, h2], by simp [Cu.next, hs, h1], ?_⟩
  rw [show rs.drop (s.i + 1) = (rs.drop s.i).drop 1 by rw [List.drop_drop], h]; rfl
theorem Cu.off {rs : List Res} {s : Cu} {y : Acc} (hs : s.stop = false) (h : rs.drop s.i = []) (hi : s.i ≤ rs.length) : s.told rs = Res.zero ∧ s.next rs y = ⟨rs.length, true, y⟩ := by
  have h1 : s.i = rs.length := by
    rcases Nat.lt_or_ge s.i rs.length with h' | h'
    · rw [List.drop_eq_getElem_cons h'] at h; cases h
    · omega
  refine ⟨by simp [Cu.told, hs, h1], by simp [Cu.next, hs, h1]⟩
theorem Cu.still {rs : List Res} {s : Cu} {y : Acc} (hs : s.stop = true) : s.told rs = Res.zero ∧ s.next rs y = s := by simp [Cu.told, Cu.next, hs]
def curM (g : Nat) (w : World) : Nat := match w.cell? ⟨g, 2, none⟩ with
  | some (.bool true) => 0
  | _ => match w.cell? ⟨g, 1, none⟩ with
    | some (.int _ i) => 65537 - i.toNat
    | _ => 0
theorem CurAt.cells {w : World} {g : Nat} {A : Option Addr} {n c : Nat} {s : Cu} (h : CurAt w g A n c s) : w.cell? ⟨g, 1, none⟩ = some (.int .i64 (s.i : Int)) ∧ w.cell? ⟨g, 2, none⟩ = some (.bool s.stop) := by
  unfold CurAt curCells at h
  simp [World.cell?, h]
theorem CurAt.m {w : World} {g : Nat} {A : Option Addr} {n c : Nat} {s : Cu} (h : CurAt w g A n c s) : curM g w = if s.stop then 0 else 65537 - s.i := by
  obtain ⟨h1, h2⟩ := h.cells
  unfold curM
  rw [h2, h1]
  cases s.stop <;> simp
end Go.Proofs.Ytjokaginolpbeaa

namespace Go.Proofs.Ytjokaginolpbeaa
open Go.RowKit

/-! A row of ints of the call's own, its spare part known too: what is laid onto it turns no world. -/
def intCells (l : List Int) : List Value := l.map (.int .i64)
theorem intCells_append (a b : List Int) : intCells (a ++ b) = intCells a ++ intCells b := by simp [intCells]
theorem intCells_length (l : List Int) : (intCells l).length = l.length := by simp [intCells]
theorem intCells_take (l : List Int) (n : Nat) : (intCells l).take n = intCells (l.take n) := by simp [intCells, List.map_take]
theorem intCells_drop (l : List Int) (n : Nat) : (intCells l).drop n = intCells (l.drop n) := by simp [intCells, List.map_drop]
theorem intCells_at {l : List Int} {i : Nat} {x : Int} (h : l[i]? = some x) : (intCells l)[i]? = some (.int .i64 x) := by simp [intCells, h]
theorem intCells_one (l : List Int) : ∀ u ∈ intCells l, u.oneCell' = true := by
  intro u hu
  obtain ⟨x, _, rfl⟩ := List.mem_map.1 hu
  rfl
theorem int_boxish : ∀ l : List Int, boxish (intCells l) = true
  | [] => rfl
  | [r] => rfl
  | r :: r' :: l => by
    have h := int_boxish (r' :: l)
    simpa [intCells, boxish, kindV] using h
theorem info_i64 : (Try.prog.info? 3).map (fun i => (i.zero, i.size, i.bytes)) = some (some (.int .i64 0), 1, 8) := by kernel_rfl
theorem zero_int (k : Nat) : (Builtin.zeroCells (Value.cells (.int .i64 0)) k).toList = intCells (List.replicate k 0) := by
  refine List.ext_getElem? fun x => ?_
  by_cases hx : x < k
  · simp [Builtin.zeroCells, intCells, Value.cells, hx, Nat.mod_one]
  · rw [List.getElem?_eq_none (by simp [Builtin.zeroCells, Value.cells]; omega), List.getElem?_eq_none (by rw [intCells_length]; simp; omega)]
def IntOwn (w : World) (base : Nat) (v : Value) (n : Nat) (l : List Int) : Prop :=
  l.length = n ∧ ((v = .slice none 0 0 ∧ n = 0) ∨ ∃ g cap full, v = .slice (some ⟨g, 0, none⟩) n cap ∧ base ≤ g ∧ w.heap[g]? = some (.cells (intCells full).toArray 3 (0, 0)) ∧ n ≤ cap ∧ cap ≤ maxLen ∧ full.length = cap ∧ full.take n = l)
theorem IntOwn.nil (w : World) (base : Nat) : IntOwn w base (.slice none 0 0) 0 [] := ⟨rfl, .inl ⟨rfl, rfl⟩⟩
theorem IntOwn.kept {w w' : World} {base : Nat} {v : Value} {n : Nat} {l : List Int} (h : IntOwn w base v n l) (hk : ∀ g o, base ≤ g → some g = v.ownBlock → w.heap[g]? = some o → w'.heap[g]? = some o) : IntOwn w' base v n l := by
  refine ⟨h.1, ?_⟩
  rcases h.2 with h2 | ⟨g, cap, full, e, hb, hg, h3⟩
  · exact .inl h2
  · exact .inr ⟨g, cap, full, e, hb, hk g _ hb (by rw [e]; rfl) hg, h3⟩
theorem IntOwn.ext {w w' : World} {base : Nat} {v : Value} {n : Nat} {l : List Int} (h : IntOwn w base v n l) (hx : Ext w w') : IntOwn w' base v n l := h.kept fun _ _ _ _ ho => heap_ext ho hx
/-- another own row grows -/
theorem IntOwn.grown {w w' : World} {base : Nat} {v u : Value} {n : Nat} {l : List Int} (h : IntOwn w base v n l) (hg : w.grownBy w' u.ownBlock) (hne : ∀ g, v.ownBlock = some g → u.ownBlock ≠ some g) : IntOwn w' base v n l :=
  h.kept fun g o _ hv ho => by
    rw [hg.block g (Array.getElem?_eq_some_iff.1 ho).1 (fun e => hne g hv.symm e.symm)]; exact ho
theorem IntOwn.form {w : World} {base : Nat} {v : Value} {n : Nat} {l : List Int} (h : IntOwn w base v n l) : ∃ B c, v = .slice B n c ∧ Cells w B (intCells l) ∧ (B = none → c = 0 ∧ n = 0) ∧ (∀ b, B = some b → ∃ g, b = ⟨g, 0, none⟩ ∧ base ≤ g ∧ v.ownBlock = some g) ∧ n ≤ c ∧ c ≤ maxLen := by
  obtain ⟨hl, h⟩ := h
  rcases h with ⟨rfl, rfl⟩ | ⟨g, cap, full, rfl, hb, hg, h1, h2, h3, rfl⟩
  · have : l = [] := List.eq_nil_of_length_eq_zero hl
    subst this
    exact ⟨none, 0, rfl, Cells.nil _ _, fun _ => ⟨rfl, rfl⟩, (by intro b h; cases h), Nat.le_refl _, by simp only [maxLen]; omega⟩
  · refine ⟨_, _, rfl, fun _ => ⟨_, rfl, fun j u hj => ?_⟩, (by intro h; cases h), (by intro b h; cases h; exact ⟨g, rfl, hb, rfl⟩), h1, h2⟩
    rw [← intCells_take, List.getElem?_take] at hj
    split at hj
    · obtain ⟨a, ha, hc⟩ := cells_heap hg (fun e => by rw [e] at hj; simp at hj)
      cases ha
      exact hc j u hj
    · cases hj
/-- an element of it -/
theorem IntOwn.at {w : World} {base : Nat} {v : Value} {n : Nat} {l : List Int} (h : IntOwn w base v n l) {i : Nat} {x : Int} (hi : l[i]? = some x) : ∃ g c, v = .slice (some ⟨g, 0, none⟩) n c ∧ base ≤ g ∧ n ≤ c ∧ c ≤ maxLen ∧ w.cell? ⟨g, i, none⟩ = some (.int .i64 x) := by
  obtain ⟨hl, h⟩ := h
  rcases h with ⟨rfl, rfl⟩ | ⟨g, cap, full, rfl, hb, hg, h1, h2, h3, rfl⟩
  · have : l = [] := List.eq_nil_of_length_eq_zero hl
    subst this; simp at hi
  · refine ⟨g, cap, rfl, hb, h1, h2, ?_⟩
    rw [List.getElem?_take] at hi
    split at hi
    · have := intCells_at hi
      simp only [World.cell?, hg, Option.isSome_none, Bool.false_eq_true, if_false]
      simpa using this
    · cases hi
/-- the last one taken off -/
theorem IntOwn.pop {w : World} {base : Nat} {g cap n : Nat} {l : List Int} (h : IntOwn w base (.slice (some ⟨g, 0, none⟩) (n + 1) cap) (n + 1) l) : IntOwn w base (.slice (some ⟨g, 0, none⟩) n cap) n l.dropLast := by
  obtain ⟨hl, h⟩ := h
  rcases h with ⟨h, _⟩ | ⟨g', cap', full, e, hb, hg, h1, h2, h3, rfl⟩
  · cases h
  · cases e
    refine ⟨by rw [List.length_dropLast, hl]; omega, .inr ⟨g, cap, full, rfl, hb, hg, by omega, h2, h3, ?_⟩⟩
    rw [List.dropLast_eq_take, List.take_take, hl]
    congr 1; omega
theorem WldV.grownI {w w' : World} {base : Nat} {v : Value} {n : Nat} {l : List Int} (h : IntOwn w base v n l) (hg : w.grownBy w' v.ownBlock) {x : Value} {X : WldK} (hV : WldV w x X) (hl : 2 ≤ X.ws.length) : WldV w' x X := by
  rcases h.2 with ⟨rfl, _⟩ | ⟨g, cap, full, rfl, _, hh, _⟩
  · exact hV.ext ⟨hg.os, hg.tape, hg.output, hg.size, fun k hk => hg.block k hk (by simp [Value.ownBlock])⟩
  · refine hV.but hl (g := g) (fun k o hk ho => ?_) hh (int_boxish full)
    rw [hg.block k (Array.getElem?_eq_some_iff.1 ho).1 (by simp [Value.ownBlock]; exact hk)]; exact ho
theorem grownI_heap {w w' : World} {base : Nat} {v : Value} {n : Nat} {l : List Int} (h : IntOwn w base v n l) (hg : w.grownBy w' v.ownBlock) {k : Nat} {o : Obj} (hk : v.ownBlock ≠ some k) (ho : w.heap[k]? = some o) : w'.heap[k]? = some o := by
  rw [hg.block k (Array.getElem?_eq_some_iff.1 ho).1 (fun e => hk e.symm)]; exact ho
theorem IntOwn.low {w : World} {base : Nat} {v : Value} {n : Nat} {l : List Int} (h : IntOwn w base v n l) {k : Nat} (hk : k < base) : v.ownBlock ≠ some k := by
  rcases h.2 with ⟨rfl, _⟩ | ⟨g, cap, full, rfl, hb, hh, _⟩
  · simp [Value.ownBlock]
  · simp only [Value.ownBlock]; intro e; injection e with e; omega
theorem IntOwn.lt {w : World} {base : Nat} {v : Value} {n : Nat} {l : List Int} (h : IntOwn w base v n l) {k : Nat} (hk : v.ownBlock = some k) : base ≤ k ∧ k < w.heap.size := by
  rcases h.2 with ⟨rfl, _⟩ | ⟨g, cap, full, rfl, hb, hh, _⟩
  · simp [Value.ownBlock] at hk
  · simp only [Value.ownBlock] at hk; injection hk with hk; subst hk; exact ⟨hb, (Array.getElem?_eq_some_iff.1 hh).1⟩
theorem IntOwn.ne_box {w : World} {base : Nat} {v : Value} {n : Nat} {l : List Int} (h : IntOwn w base v n l) {k : Nat} {cs : Array Value} {T : TypeId} {fr : Nat × Nat} (hk : w.heap[k]? = some (.cells cs T fr)) (hT : T ≠ 3) : v.ownBlock ≠ some k := by
  rcases h.2 with ⟨rfl, _⟩ | ⟨g, cap, full, rfl, hb, hh, _⟩
  · simp [Value.ownBlock]
  · simp only [Value.ownBlock]; intro e; injection e with e; subst e
    rw [hh] at hk; simp only [Option.some.injEq, Obj.cells.injEq] at hk; exact hT hk.2.1.symm
theorem grownI_ext {w0 w w' : World} {base : Nat} {v : Value} {n : Nat} {l : List Int} (h : IntOwn w base v n l) (hg : w.grownBy w' v.ownBlock) (h0 : Ext w0 w) (hb : w0.heap.size ≤ base) : Ext w0 w' :=
  ⟨hg.os.trans h0.os, hg.tape.trans h0.tape, hg.output.trans h0.output, Nat.le_trans h0.size hg.size, fun k hk => by
    have h1 : k < w.heap.size := Nat.lt_of_lt_of_le hk h0.size
    obtain ⟨o, ho⟩ : ∃ o, w.heap[k]? = some o := ⟨_, Array.getElem?_eq_getElem h1⟩
    rw [grownI_heap h hg (h.low (by omega)) ho, ← ho]
    exact h0.block k hk⟩
/-- a new row, or the old one -/
theorem run_append_int {P : Program} {w : World} (base : Nat) (t ty : TypeId) (i : TypeInfo) (ht : P.underlying t = some (.slice 3)) (hi : P.info? 3 = some i) (hz : i.zero = some (.int .i64 0)) (hsize : i.size = 1) (hby : i.bytes = 8)
    (v : Value) (n : Nat) (l : List Int) (hown : IntOwn w base v n l) (a : Addr) (m c : Nat) (l2 : List Int) (hm : l2.length = m) (h0 : v = .slice none 0 0 → 0 < m) (hnews : ∀ j u, (intCells l2)[j]? = some u → w.cell? (a.add j) = some u) (hn : n + m ≤ 1000000) (hbase : base ≤ w.heap.size) :
    ∃ v' w', (Builtin.append_ #[t, t] ty #[v, .slice (some a) m c]).run P w = .ok v' w' ∧ IntOwn w' base v' (n + m) (l ++ l2) ∧ w.grownBy w' v.ownBlock ∧ (v'.ownBlock = v.ownBlock ∨ v'.ownBlock = some w.heap.size) := by
  have hl1 : (intCells l2).length = m * i.size := by rw [hsize, intCells_length, hm, Nat.mul_one]
  have h1 := intCells_one l2
  have hlen : (l ++ l2).length = n + m := by rw [List.length_append, hown.1, hm]
  have grown : ∀ (old : Nat), old < n + m → ∀ (row : Option Nat),
      IntOwn (w.drew.alloc (.cells ((intCells l).toArray ++ (intCells l2).toArray ++ Builtin.zeroCells (Value.cells (.int .i64 0)) (grownCap w (n + m) old 3 - (n + m))) 3)) base
        (.slice (some ⟨w.heap.size, 0, none⟩) (n + m) (grownCap w (n + m) old 3)) (n + m) (l ++ l2) ∧
      w.grownBy (w.drew.alloc (.cells ((intCells l).toArray ++ (intCells l2).toArray ++ Builtin.zeroCells (Value.cells (.int .i64 0)) (grownCap w (n + m) old 3 - (n + m))) 3)) row := by
    intro old ho row
    have hge := grownCap_ge w (n + m) old 3
    have hcm : grownCap w (n + m) old 3 ≤ maxLen := grownCap_le_maxLen w (n + m) old _ (by simp only [maxLen]; omega)
    refine ⟨⟨hlen, .inr ⟨w.heap.size, _, (l ++ l2) ++ List.replicate (grownCap w (n + m) old 3 - (n + m)) 0, rfl, hbase, ?_, hge, hcm, ?_, ?_⟩⟩, ⟨rfl, rfl, rfl, by simp, fun k hk _ => heap_alloc_old w.drew _ hk⟩⟩
    · have e : ((intCells l).toArray ++ (intCells l2).toArray ++ Builtin.zeroCells (Value.cells (.int .i64 0)) (grownCap w (n + m) old 3 - (n + m))) = (intCells ((l ++ l2) ++ List.replicate (grownCap w (n + m) old 3 - (n + m)) 0)).toArray := by
        rw [intCells_append, intCells_append, ← zero_int]
        simp
      rw [e]
      exact heap_alloc_new w.drew _
    · rw [List.length_append, hlen, List.length_replicate]; omega
    · rw [← hlen]; exact List.take_left
  rcases hown.2 with ⟨rfl, rfl⟩ | ⟨g, cap, full, rfl, hbg, hg, hnc, hcm, hcl, htake⟩
  · have hx : l = [] := List.eq_nil_of_length_eq_zero hown.1
    subst hx
    have hr := run_append_nil (P := P) w t ty 3 i _ ht hi hz a m c (intCells l2) hl1 hnews (h0 rfl) (by omega) (by rw [hby]; omega)
    have hgr := grown 0 (by have := h0 rfl; omega) (Value.ownBlock (.slice none 0 0))
    simp only [Nat.zero_add, intCells, List.map_nil, Array.empty_append] at hgr hr ⊢
    exact ⟨_, _, hr, hgr.1, hgr.2, .inr rfl⟩
  · by_cases hroom : n + m ≤ cap
    · have hfit : n * i.size + (intCells l2).length ≤ (intCells full).toArray.size := by rw [hl1, hsize, List.size_toArray, intCells_length, hcl]; omega
      have hr := run_append_room (P := P) w t ty 3 i ht hi g n cap _ hg a m c (intCells l2) hl1 hnews h1 hroom hfit
      have e : ((intCells full).take (n * i.size) ++ intCells l2 ++ (intCells full).drop (n * i.size + (intCells l2).length)) = intCells ((l ++ l2) ++ full.drop (n + m)) := by
        rw [hl1, hsize, Nat.mul_one, Nat.mul_one, intCells_take, intCells_drop, htake, intCells_append, intCells_append]
      rw [List.toList_toArray, e] at hr
      refine ⟨_, _, hr, ⟨hlen, .inr ⟨g, cap, _, rfl, hbg, setRow_heap w g _ _ _ _ hg, hroom, hcm, ?_, ?_⟩⟩, ⟨rfl, rfl, rfl, by simp, fun k _ hk => setRow_other w g k _ (fun e => hk (by simp [Value.ownBlock, e]))⟩, .inl rfl⟩
      · rw [List.length_append, hlen, List.length_drop]; omega
      · rw [← hlen]; exact List.take_left
    · have holds : ∀ j u, (intCells l)[j]? = some u → w.cell? ((⟨g, 0, none⟩ : Addr).add j) = some u := fun j u hj => by
        rw [← htake, ← intCells_take, List.getElem?_take] at hj
        split at hj
        · obtain ⟨a', ha, hc⟩ := cells_heap hg (fun e => by rw [e] at hj; simp at hj)
          cases ha
          exact hc j u hj
        · cases hj
      have hr := run_append_grow (P := P) w t ty 3 i _ ht hi hz ⟨g, 0, none⟩ n cap (intCells l) (by rw [hsize, intCells_length, hown.1, Nat.mul_one]) holds a m c (intCells l2) hl1 hnews (by omega) (by omega) (growslice_fits (by omega) (by rw [hby]; omega))
      have hgr := grown cap (by omega) (Value.ownBlock (.slice (some ⟨g, 0, none⟩) n cap))
      exact ⟨_, _, hr, hgr.1, hgr.2, .inr rfl⟩
theorem wpList_append_int {P : Program} {ops : Array Oper} {rest : List Oper} {o : Oper} {a : Act} {Q : Exit → Act → World → Prop} {w : World} (hgd : o.guard = none) (s x : Operand) (t : TypeId)
    (ho : o.op = .call { callee := .builtin .append, args := #[s, x], argTypes := #[t, t] }) (base : Nat) (i : TypeInfo) (ht : P.underlying t = some (.slice 3)) (hi : P.info? 3 = some i) (hz : i.zero = some (.int .i64 0)) (hsize : i.size = 1) (hby : i.bytes = 8)
    (v : Value) (n : Nat) (l : List Int) (hs : a.eval s = v) (hown : IntOwn w base v n l) (ad : Addr) (m c : Nat) (l2 : List Int) (hm : l2.length = m) (h0 : v = .slice none 0 0 → 0 < m) (hx : a.eval x = .slice (some ad) m c) (hnews : ∀ j u, (intCells l2)[j]? = some u → w.cell? (ad.add j) = some u) (hn : n + m ≤ 1000000) (hbase : base ≤ w.heap.size)
    (h : ∀ v' w', IntOwn w' base v' (n + m) (l ++ l2) → w.grownBy w' v.ownBlock → (v'.ownBlock = v.ownBlock ∨ v'.ownBlock = some w.heap.size) → wpList P ops Q rest (a.put o.dst v') w') : wpList P ops Q (o :: rest) a w := by
  obtain ⟨v', w', hr, h2, h3, h4⟩ := run_append_int (P := P) (w := w) base t o.type i ht hi hz hsize hby v n l hown ad m c l2 hm h0 hnews hn hbase
  refine wpList_plain hgd fun _ hK => ?_
  unfold Oper.wp execOp
  simp only [ho, resolve, invoke, builtin, Sem.run_bind, Sem.run_pure, Result.andThen_ok, List.map_toArray, List.map_cons, List.map_nil, hs, hx, hr]
  exact hK _ _ (h v' w' h2 h3 h4)
end Go.Proofs.Ytjokaginolpbeaa

namespace Go.Proofs.Ytjokaginolpbeaa
open Go.RowKit

/-! wealdref12.Free: a chain's records. -/
theorem WldV.words {w : World} {X : WldK} {T C : Int} {A : Option Addr} {q c : Nat} {R : Int} {B C' : Option Addr} {n b n' d : Nat} (h : WldV w (.agg #[.int .i64 T, .int .i64 C, .slice A q c, .int .u64 R, .slice B n b, .slice C' n' d]) X) : WordsV w A q c X.ws := by
  obtain ⟨A2, q2, c2, B2, C2, b2, d2, e, hw, -⟩ := h
  simp only [Value.agg.injEq, Array.mk.injEq, List.cons.injEq, Value.slice.injEq, and_true] at e
  obtain ⟨-, -, ⟨rfl, rfl, rfl⟩, -⟩ := e
  exact hw
theorem nodup_len : ∀ (c : Nat) (l : List Int), l.Nodup → (∀ x ∈ l, 1 ≤ x ∧ x ≤ (c : Int)) → l.length ≤ c
  | 0, l, _, h => by
    cases l with
    | nil => simp
    | cons x l => have := h x (by simp); omega
  | c + 1, l, hd, h => by
    have h1 := nodup_len c (l.erase ((c : Int) + 1)) (hd.erase _) (fun x hx => by
      have hm := List.mem_of_mem_erase hx
      have hne : x ≠ (c : Int) + 1 := fun e => by subst e; exact (List.Nodup.not_mem_erase hd) hx
      have := h x hm
      omega)
    have h2 : l.length ≤ (l.erase ((c : Int) + 1)).length + 1 := by
      by_cases hm : ((c : Int) + 1) ∈ l
      · rw [List.length_erase_of_mem hm]; omega
      · rw [List.erase_of_not_mem hm]; omega
    omega
theorem PoolK.len {X : WldK} {t c : Nat} {pile : List Int} (h : PoolK X t c pile) : pile.length ≤ c := nodup_len c pile h.nodup h.chain.mem
end Go.Proofs.Ytjokaginolpbeaa

namespace Go.Proofs.Ytjokaginolpbeaa
open Go.RowKit

/-! What the laws of chapter 12 share. -/
theorem bytes_cell {w : World} {A : Option Addr} {n c : Nat} {l : List UInt8} (h : BytesV w A n c l) {i : Nat} (hi : i < n) : ∃ a z, A = some a ∧ w.cell? (a.add i) = some (.int .u8 (z : Nat)) ∧ z < 256 := by
  have hl : i < l.length := by rw [h.len]; exact hi
  obtain ⟨a, ha, hc⟩ := h.cells (fun e => by simp [bytesOf] at e; subst e; simp at hl)
  refine ⟨a, l[i].toNat, ha, hc i _ ?_, l[i].toNat_lt⟩
  simp [bytesOf, hl]
theorem WldV.word {w : World} {X : WldK} {T C : Int} {A : Option Addr} {q c : Nat} {R : Int} {B C' : Option Addr} {n b n' d : Nat} (h : WldV w (.agg #[.int .i64 T, .int .i64 C, .slice A q c, .int .u64 R, .slice B n b, .slice C' n' d]) X) (h2 : 2 ≤ X.ws.length) :
    ∃ a, A = some a ∧ q = X.ws.length ∧ ∀ i : Nat, i < q → w.cell? (a.add i) = some (.int .u64 (X.at (i : Int))) := by
  have hA := h.words
  have hne : wordsOf X.ws ≠ [] := fun e => by
    have := congrArg List.length e
    rw [wordsOf_length, List.length_nil] at this; omega
  obtain ⟨a, rfl, hc⟩ := hA.cells hne
  refine ⟨a, rfl, hA.len.symm, fun i hi => hc i _ ?_⟩
  unfold wordsOf WldK.at
  rw [List.getElem?_map]
  have hi2 : i < X.ws.length := by rw [hA.len]; exact hi
  simp [List.getElem?_eq_getElem hi2, List.getD_eq_getElem?_getD]
/-- what is free, and what is had: all records, each once -/
structure HK (N : Nat) (pile held : List Int) : Prop where
  nodup : (pile ++ held).Nodup
  rng : ∀ x ∈ held, 1 ≤ x ∧ x ≤ (N : Int)
  len : pile.length + held.length = N
theorem HK.new (N : Nat) : HK N (upFrom 1 N) [] := ⟨by rw [List.append_nil]; exact upFrom_nodup _ _, by simp, by
  have : ∀ n r, (upFrom r n).length = n := fun n => by
    induction n with
    | zero => intro r; rfl
    | succ n ih => intro r; simp [upFrom, ih]
  simp [this]⟩
theorem HK.pop {N : Nat} {x : Int} {l held : List Int} (h : HK N (x :: l) held) (hx : 1 ≤ x ∧ x ≤ (N : Int)) : HK N l (held ++ [x]) := by
  have hn : (l ++ (held ++ [x])).Nodup := by
    have h1 : (x :: (l ++ held)).Nodup := h.nodup
    rw [List.nodup_cons] at h1
    rw [← List.append_assoc, List.nodup_append]
    refine ⟨h1.2, by simp, fun a ha b hb => ?_⟩
    rw [List.mem_singleton] at hb
    intro e; subst e; subst hb; exact h1.1 ha
  refine ⟨hn, fun y hy => ?_, by have := h.len; simp at this ⊢; omega⟩
  rcases List.mem_append.1 hy with hy | hy
  · exact h.rng y hy
  · rw [List.mem_singleton.1 hy]; exact hx
end Go.Proofs.Ytjokaginolpbeaa

namespace Go.Proofs.Ytjokaginolpbeaa
open Go.RowKit

/-! The example of chapter 13. -/
set_option maxRecDepth 100000 in
set_option maxHeartbeats 4000000 in
theorem shown13_any (w : World) : Calls Try.prog 15 #[] w fun e w' => e = .returned (.bool true) ∧ Ext w w' := by
  have hb6 : ∀ (W : World), (Instr.build 24 #[(0, .int .i64 6)]).run Try.prog W = .ok (.agg #[.int .i64 6, .int .i64 0, .int .i64 0, .int .u64 0]) W := fun _ => by kernel_rfl
  have hb3 : ∀ (W : World), (Instr.build 24 #[(0, .int .i64 3)]).run Try.prog W = .ok (.agg #[.int .i64 3, .int .i64 0, .int .i64 0, .int .u64 0]) W := fun _ => by kernel_rfl
  have hb5 : ∀ (W : World), (Instr.build 24 #[(0, .int .i64 5), (1, .int .i64 1)]).run Try.prog W = .ok (.agg #[.int .i64 5, .int .i64 1, .int .i64 0, .int .u64 0]) W := fun _ => by kernel_rfl
  have hnew := ranew_yes 2 1 (by omega) (by omega) (by omega) w
  have cV := exc_V
  have cU := exc_U
  have cX := exc_X
  have cD := exc_D
  have cY := exc_Y
  have hyl := exY_len
  have hya := exY_at
  generalize exV.1 = X1 at *
  generalize exU.1 = X2 at *
  generalize exX.1 = X3 at *
  generalize exD.1 = X4 at *
  generalize exY.1 = X5 at *
  generalize newW 2 1 = X0 at *
  have HYL := Lib.hid hyl
  have HYA := Lib.hid hya
  clear hyl hya
  go_enter Try.func15, Try.ntmps15
  have hW : Ext w w := Ext.refl w
  go_wp2_with fail
  refine (hnew).mono ?_
  rintro e w_a ⟨v_, rfl, hVa, hx_⟩
  obtain ⟨aA, aq, ac, aB, ab, aC, ad, rfl⟩ := hVa.form6
  replace hW := hW.trans hx_
  clear hx_
  go_upto_region 2 with (fail)
  have hx_ : Ext w_a (w_a.alloc (.cells #[.int .i64 X0.T, .int .i64 X0.C, .slice aA aq ac, .int .u64 X0.R, .slice aB X0.n ab, .slice aC X0.n ad] 51)) := (Below.refl _ w_a).alloc (Nat.le_refl _) _
  have hba := heap_alloc_new w_a (.cells #[.int .i64 X0.T, .int .i64 X0.C, .slice aA aq ac, .int .u64 X0.R, .slice aB X0.n ab, .slice aC X0.n ad] 51)
  generalize w_a.alloc (.cells #[.int .i64 X0.T, .int .i64 X0.C, .slice aA aq ac, .int .u64 X0.R, .slice aB X0.n ab, .slice aC X0.n ad] 51) = W1 at *
  generalize w_a.heap.size = ga at *
  replace hVa := hVa.ext hx_
  replace hW := hW.trans hx_
  clear hx_
  have z0 : W1.cell? ⟨ga, 0, none⟩ = some (.int .i64 X0.T) := by simp [World.cell?, hba]
  have z1 : W1.cell? ⟨ga, 1, none⟩ = some (.int .i64 X0.C) := by simp [World.cell?, hba]
  have z2 : W1.cell? ⟨ga, 2, none⟩ = some (.slice aA aq ac) := by simp [World.cell?, hba]
  have z3 : W1.cell? ⟨ga, 3, none⟩ = some (.int .u64 X0.R) := by simp [World.cell?, hba]
  have z4 : W1.cell? ⟨ga, 4, none⟩ = some (.slice aB X0.n ab) := by simp [World.cell?, hba]
  have z5 : W1.cell? ⟨ga, 5, none⟩ = some (.slice aC X0.n ad) := by simp [World.cell?, hba]
  go_wp2_with fail
  refine (cV _ _ hVa).mono ?_
  rintro e w_b ⟨v_, rfl, hVb, hx_⟩
  obtain ⟨bA, bq, bc, bB, bb, bC, bd, rfl⟩ := hVb.form6
  clear z0 z1 z2 z3 z4 z5
  replace hba := heap_ext hba hx_
  replace hVa := hVa.ext hx_
  replace hW := hW.trans hx_
  clear hx_
  go_upto_region 3 with (fail)
  obtain ⟨hx_, hbb, hob⟩ := two_boxes7 w_b (.cells #[.int .i64 X1.T, .int .i64 X1.C, .slice bA bq bc, .int .u64 X1.R, .slice bB X1.n bb, .slice bC X1.n bd] 51) (.cells #[.int .i64 0, .bool false, .int .i64 1, .int .u64 0, .slice none 0 0] 37)
  generalize (w_b.alloc (.cells #[.int .i64 X1.T, .int .i64 X1.C, .slice bA bq bc, .int .u64 X1.R, .slice bB X1.n bb, .slice bC X1.n bd] 51)).alloc (.cells #[.int .i64 0, .bool false, .int .i64 1, .int .u64 0, .slice none 0 0] 37) = Wb at *
  generalize w_b.heap.size = gb at *
  replace hba := heap_ext hba hx_
  replace hVa := hVa.ext hx_
  replace hVb := hVb.ext hx_
  replace hW := hW.trans hx_
  clear hx_
  have z0 : Wb.cell? ⟨gb, 0, none⟩ = some (.int .i64 X1.T) := by simp [World.cell?, hbb]
  have z1 : Wb.cell? ⟨gb, 1, none⟩ = some (.int .i64 X1.C) := by simp [World.cell?, hbb]
  have z2 : Wb.cell? ⟨gb, 2, none⟩ = some (.slice bA bq bc) := by simp [World.cell?, hbb]
  have z3 : Wb.cell? ⟨gb, 3, none⟩ = some (.int .u64 X1.R) := by simp [World.cell?, hbb]
  have z4 : Wb.cell? ⟨gb, 4, none⟩ = some (.slice bB X1.n bb) := by simp [World.cell?, hbb]
  have z5 : Wb.cell? ⟨gb, 5, none⟩ = some (.slice bC X1.n bd) := by simp [World.cell?, hbb]
  go_wp2_with fail
  refine (cU _ _ hVb).mono ?_
  rintro e w_c ⟨v_, rfl, hVc, hx_⟩
  obtain ⟨cA, cq, cc, cB, cb, cC, cd, rfl⟩ := hVc.form6
  clear z0 z1 z2 z3 z4 z5
  replace hba := heap_ext hba hx_
  replace hbb := heap_ext hbb hx_
  replace hob := heap_ext hob hx_
  replace hVa := hVa.ext hx_
  replace hVb := hVb.ext hx_
  replace hW := hW.trans hx_
  clear hx_
  go_upto_region 4 with (fail)
  obtain ⟨hx_, hbc, hoc⟩ := two_boxes7 w_c (.cells #[.int .i64 X2.T, .int .i64 X2.C, .slice cA cq cc, .int .u64 X2.R, .slice cB X2.n cb, .slice cC X2.n cd] 51) (.cells #[.int .i64 0, .bool false, .int .i64 0, .int .u64 0, .slice none 0 0] 37)
  generalize (w_c.alloc (.cells #[.int .i64 X2.T, .int .i64 X2.C, .slice cA cq cc, .int .u64 X2.R, .slice cB X2.n cb, .slice cC X2.n cd] 51)).alloc (.cells #[.int .i64 0, .bool false, .int .i64 0, .int .u64 0, .slice none 0 0] 37) = Wc at *
  generalize w_c.heap.size = gc at *
  replace hba := heap_ext hba hx_
  replace hbb := heap_ext hbb hx_
  replace hob := heap_ext hob hx_
  replace hVa := hVa.ext hx_
  replace hVb := hVb.ext hx_
  replace hVc := hVc.ext hx_
  replace hW := hW.trans hx_
  clear hx_
  clear hbb hVb
  have z0 : Wc.cell? ⟨gc, 0, none⟩ = some (.int .i64 X2.T) := by simp [World.cell?, hbc]
  have z1 : Wc.cell? ⟨gc, 1, none⟩ = some (.int .i64 X2.C) := by simp [World.cell?, hbc]
  have z2 : Wc.cell? ⟨gc, 2, none⟩ = some (.slice cA cq cc) := by simp [World.cell?, hbc]
  have z3 : Wc.cell? ⟨gc, 3, none⟩ = some (.int .u64 X2.R) := by simp [World.cell?, hbc]
  have z4 : Wc.cell? ⟨gc, 4, none⟩ = some (.slice cB X2.n cb) := by simp [World.cell?, hbc]
  have z5 : Wc.cell? ⟨gc, 5, none⟩ = some (.slice cC X2.n cd) := by simp [World.cell?, hbc]
  go_wp2_with fail
  refine (cX _ _ hVc).mono ?_
  rintro e w_d ⟨v_, rfl, hVd, hx_⟩
  obtain ⟨dA, dq, dc, dB, db, dC, dd, rfl⟩ := hVd.form6
  clear z0 z1 z2 z3 z4 z5
  replace hba := heap_ext hba hx_
  replace hob := heap_ext hob hx_
  replace hbc := heap_ext hbc hx_
  replace hoc := heap_ext hoc hx_
  replace hVa := hVa.ext hx_
  replace hVc := hVc.ext hx_
  replace hW := hW.trans hx_
  clear hx_
  go_upto_region 5 with (fail)
  obtain ⟨hx_, hbd, hod⟩ := two_boxes7 w_d (.cells #[.int .i64 X3.T, .int .i64 X3.C, .slice dA dq dc, .int .u64 X3.R, .slice dB X3.n db, .slice dC X3.n dd] 51) (.cells #[.int .i64 0, .bool false, .int .i64 1, .int .u64 0, .slice none 0 0] 37)
  generalize (w_d.alloc (.cells #[.int .i64 X3.T, .int .i64 X3.C, .slice dA dq dc, .int .u64 X3.R, .slice dB X3.n db, .slice dC X3.n dd] 51)).alloc (.cells #[.int .i64 0, .bool false, .int .i64 1, .int .u64 0, .slice none 0 0] 37) = Wd at *
  generalize w_d.heap.size = gd at *
  replace hba := heap_ext hba hx_
  replace hob := heap_ext hob hx_
  replace hbc := heap_ext hbc hx_
  replace hoc := heap_ext hoc hx_
  replace hVa := hVa.ext hx_
  replace hVc := hVc.ext hx_
  replace hVd := hVd.ext hx_
  replace hW := hW.trans hx_
  clear hx_
  clear hbc hVc
  have z0 : Wd.cell? ⟨gd, 0, none⟩ = some (.int .i64 X3.T) := by simp [World.cell?, hbd]
  have z1 : Wd.cell? ⟨gd, 1, none⟩ = some (.int .i64 X3.C) := by simp [World.cell?, hbd]
  have z2 : Wd.cell? ⟨gd, 2, none⟩ = some (.slice dA dq dc) := by simp [World.cell?, hbd]
  have z3 : Wd.cell? ⟨gd, 3, none⟩ = some (.int .u64 X3.R) := by simp [World.cell?, hbd]
  have z4 : Wd.cell? ⟨gd, 4, none⟩ = some (.slice dB X3.n db) := by simp [World.cell?, hbd]
  have z5 : Wd.cell? ⟨gd, 5, none⟩ = some (.slice dC X3.n dd) := by simp [World.cell?, hbd]
  go_wp2_with fail
  refine (cD _ _ hVd).mono ?_
  rintro e w_e ⟨v_, rfl, hVe, hx_⟩
  obtain ⟨eA, eq, ec, eB, eb, eC, ed, rfl⟩ := hVe.form6
  clear z0 z1 z2 z3 z4 z5
  replace hba := heap_ext hba hx_
  replace hob := heap_ext hob hx_
  replace hoc := heap_ext hoc hx_
  replace hbd := heap_ext hbd hx_
  replace hod := heap_ext hod hx_
  replace hVa := hVa.ext hx_
  replace hVd := hVd.ext hx_
  replace hW := hW.trans hx_
  clear hx_
  go_upto_region 6 with (fail)
  obtain ⟨hx_, hbe, hoe⟩ := two_boxes7 w_e (.cells #[.int .i64 X4.T, .int .i64 X4.C, .slice eA eq ec, .int .u64 X4.R, .slice eB X4.n eb, .slice eC X4.n ed] 51) (.cells #[.int .i64 0, .bool false, .int .i64 0, .int .u64 0, .slice none 0 0] 37)
  generalize (w_e.alloc (.cells #[.int .i64 X4.T, .int .i64 X4.C, .slice eA eq ec, .int .u64 X4.R, .slice eB X4.n eb, .slice eC X4.n ed] 51)).alloc (.cells #[.int .i64 0, .bool false, .int .i64 0, .int .u64 0, .slice none 0 0] 37) = We at *
  generalize w_e.heap.size = ge at *
  replace hba := heap_ext hba hx_
  replace hob := heap_ext hob hx_
  replace hoc := heap_ext hoc hx_
  replace hbd := heap_ext hbd hx_
  replace hod := heap_ext hod hx_
  replace hVa := hVa.ext hx_
  replace hVd := hVd.ext hx_
  replace hVe := hVe.ext hx_
  replace hW := hW.trans hx_
  clear hx_
  clear hbd hVd
  have z0 : We.cell? ⟨ga, 0, none⟩ = some (.int .i64 X0.T) := by simp [World.cell?, hba]
  have z1 : We.cell? ⟨ga, 1, none⟩ = some (.int .i64 X0.C) := by simp [World.cell?, hba]
  have z2 : We.cell? ⟨ga, 2, none⟩ = some (.slice aA aq ac) := by simp [World.cell?, hba]
  have z3 : We.cell? ⟨ga, 3, none⟩ = some (.int .u64 X0.R) := by simp [World.cell?, hba]
  have z4 : We.cell? ⟨ga, 4, none⟩ = some (.slice aB X0.n ab) := by simp [World.cell?, hba]
  have z5 : We.cell? ⟨ga, 5, none⟩ = some (.slice aC X0.n ad) := by simp [World.cell?, hba]
  go_wp2_with fail
  refine (cY _ _ hVa).mono ?_
  rintro e w_f ⟨v_, rfl, hVf, hx_⟩
  obtain ⟨fA, fq, fc, fB, fb, fC, fd, rfl⟩ := hVf.form6
  clear z0 z1 z2 z3 z4 z5
  replace hba := heap_ext hba hx_
  replace hob := heap_ext hob hx_
  replace hoc := heap_ext hoc hx_
  replace hod := heap_ext hod hx_
  replace hbe := heap_ext hbe hx_
  replace hoe := heap_ext hoe hx_
  replace hVa := hVa.ext hx_
  replace hVe := hVe.ext hx_
  replace hW := hW.trans hx_
  clear hx_
  go_upto_region 7 with (fail)
  obtain ⟨hx_, hbf, hof⟩ := two_boxes7 w_f (.cells #[.int .i64 X5.T, .int .i64 X5.C, .slice fA fq fc, .int .u64 X5.R, .slice fB X5.n fb, .slice fC X5.n fd] 51) (.cells #[.int .i64 0, .bool false, .int .i64 0, .int .u64 0, .slice none 0 0] 37)
  generalize (w_f.alloc (.cells #[.int .i64 X5.T, .int .i64 X5.C, .slice fA fq fc, .int .u64 X5.R, .slice fB X5.n fb, .slice fC X5.n fd] 51)).alloc (.cells #[.int .i64 0, .bool false, .int .i64 0, .int .u64 0, .slice none 0 0] 37) = Wf at *
  generalize w_f.heap.size = gf at *
  replace hba := heap_ext hba hx_
  replace hob := heap_ext hob hx_
  replace hoc := heap_ext hoc hx_
  replace hod := heap_ext hod hx_
  replace hbe := heap_ext hbe hx_
  replace hoe := heap_ext hoe hx_
  replace hVa := hVa.ext hx_
  replace hVe := hVe.ext hx_
  replace hVf := hVf.ext hx_
  replace hW := hW.trans hx_
  clear hx_
  clear hba hVa
  have z0 : Wf.cell? ⟨gf, 0, none⟩ = some (.int .i64 X5.T) := by simp [World.cell?, hbf]
  have z1 : Wf.cell? ⟨gf, 1, none⟩ = some (.int .i64 X5.C) := by simp [World.cell?, hbf]
  have z2 : Wf.cell? ⟨gf, 2, none⟩ = some (.slice fA fq fc) := by simp [World.cell?, hbf]
  have z3 : Wf.cell? ⟨gf, 3, none⟩ = some (.int .u64 X5.R) := by simp [World.cell?, hbf]
  have z4 : Wf.cell? ⟨gf, 4, none⟩ = some (.slice fB X5.n fb) := by simp [World.cell?, hbf]
  have z5 : Wf.cell? ⟨gf, 5, none⟩ = some (.slice fC X5.n fd) := by simp [World.cell?, hbf]
  have b0 : Wf.cell? ⟨gb + 1, 0, none⟩ = some (.int .i64 0) := by simp [World.cell?, hob]
  have b1 : Wf.cell? ⟨gb + 1, 1, none⟩ = some (.bool false) := by simp [World.cell?, hob]
  have b2 : Wf.cell? ⟨gb + 1, 2, none⟩ = some (.int .i64 1) := by simp [World.cell?, hob]
  have b3 : Wf.cell? ⟨gb + 1, 3, none⟩ = some (.int .u64 0) := by simp [World.cell?, hob]
  have b4 : Wf.cell? ⟨gb + 1, 4, none⟩ = some (.slice none 0 0) := by simp [World.cell?, hob]
  have d0 : Wf.cell? ⟨gd + 1, 0, none⟩ = some (.int .i64 0) := by simp [World.cell?, hod]
  have d1 : Wf.cell? ⟨gd + 1, 1, none⟩ = some (.bool false) := by simp [World.cell?, hod]
  have d2 : Wf.cell? ⟨gd + 1, 2, none⟩ = some (.int .i64 1) := by simp [World.cell?, hod]
  have d3 : Wf.cell? ⟨gd + 1, 3, none⟩ = some (.int .u64 0) := by simp [World.cell?, hod]
  have d4 : Wf.cell? ⟨gd + 1, 4, none⟩ = some (.slice none 0 0) := by simp [World.cell?, hod]
  have e0 : Wf.cell? ⟨ge + 1, 0, none⟩ = some (.int .i64 0) := by simp [World.cell?, hoe]
  have e1 : Wf.cell? ⟨ge + 1, 1, none⟩ = some (.bool false) := by simp [World.cell?, hoe]
  have e2 : Wf.cell? ⟨ge + 1, 2, none⟩ = some (.int .i64 0) := by simp [World.cell?, hoe]
  have e3 : Wf.cell? ⟨ge + 1, 3, none⟩ = some (.int .u64 0) := by simp [World.cell?, hoe]
  have e4 : Wf.cell? ⟨ge + 1, 4, none⟩ = some (.slice none 0 0) := by simp [World.cell?, hoe]
  obtain ⟨aY, rfl, hqY, hcY⟩ := hVf.word (by rw [HYL.out]; omega)
  rw [HYL.out] at hqY
  have hc9 := hcY 9 (by omega)
  rw [show (((9 : Nat)) : Int) = 9 from rfl, HYA.out, show aY.add 9 = ⟨aY.block, aY.off + 9, none⟩ from rfl] at hc9
  have hfq : ¬ (fq : Int) < 10 := by omega
  have hfq9 : (9 : Int) < (fq : Int) := by omega
  clear hqY hcY
  go_wp2
  go_ret
  exact ⟨rfl, hW⟩
end Go.Proofs.Ytjokaginolpbeaa

namespace Go.Proofs.Ytjokaginolpbeaa
open Go.RowKit

/-! What operations on epochs do, stepping alone: an epoch, what is free, three limbos, pins. -/
structure EpS where
  e : Nat
  pile : List Int
  L : Nat → List Int
  P : Nat → Int
def EpS.all (S : EpS) : List Int := S.pile ++ (S.L 0 ++ (S.L 1 ++ S.L 2))
structure EpK (X : WldK) (t c : Nat) (S : EpS) : Prop where
  pool : PoolK X t c S.pile
  lim : ∀ i : Nat, i < 3 → ChainW X t c (S.L i) (firstF (X.at (4 + (i : Int))))
  nodup : S.all.Nodup
  ep : X.at 3 = (S.e : Int)
  pins : ∀ i : Nat, i < t → X.at (8 + (i : Int)) = S.P i
theorem EpK.dim {X : WldK} {t c : Nat} {S : EpS} (h : EpK X t c S) : Dim X t c := h.pool.dim
theorem at_ge (X : WldK) {t c : Nat} (h : Dim X t c) : 15 + t ≤ X.ws.length + 7 ∧ 8 + t ≤ X.ws.length := by rw [h.len]; unfold memL; omega
theorem Goes.cast {α : Type} {me : Int} {T : PT α} {X X' : WldK} {j j' : Nat} {a : α} (h : Goes me T X j a X') (e : j = j') : Goes me T X j' a X' := e ▸ h
/-! Draining a chain. -/
def drainX (X : WldK) (t : Nat) (l : List Int) : WldK := l.foldl (fun X x => pushX X t x) X
theorem drain_cons (X : WldK) (t : Nat) (x : Int) (l : List Int) : drainX X t (x :: l) = drainX (pushX X t x) t l := rfl
theorem pushX_at {X : WldK} {t : Nat} {x j : Int} (h1 : j.toNat ≠ 1) (h2 : j.toNat ≠ (linkI t x).toNat) : (pushX X t x).at j = X.at j := by
  unfold pushX
  rw [at_put_other (by omega), at_put_other h2]
theorem drain_at {t : Nat} {j : Int} (h1 : j.toNat ≠ 1) : ∀ (l : List Int) (X : WldK), (∀ x ∈ l, j.toNat ≠ (linkI t x).toNat) → (drainX X t l).at j = X.at j
  | [], X, _ => rfl
  | x :: l, X, h => by rw [drain_cons, drain_at h1 l _ (fun y hy => h y (by simp [hy])), pushX_at h1 (h x (by simp))]
theorem chain_drain {me : Int} {t c f : Nat} : ∀ (l : List Int) (X : WldK) (r : Int) (pile : List Int) (g : Nat), PoolK X t c pile → ChainW X t c l r → (l ++ pile).Nodup → l.length < g →
    Goes me (chainT t (f + 1) g r) X (4 * l.length) 0 (drainX X t l) ∧ PoolK (drainX X t l) t c (l.reverse ++ pile)
  | [], X, r, pile, g, hp, hc, _, hg => by
    obtain ⟨g, rfl⟩ : ∃ m, g = m + 1 := ⟨g - 1, by simp at hg; omega⟩
    have h0 : r = 0 := hc
    refine ⟨?_, hp⟩
    unfold chainT
    rw [if_pos h0]
    exact Goes.ret _ _
  | x :: l, X, r, pile, g, hp, hc, hn, hg => by
    obtain ⟨g, rfl⟩ : ∃ m, g = m + 1 := ⟨g - 1, by simp at hg; omega⟩
    obtain ⟨hr, h1, h2, h3⟩ := hc
    have hl := link_in (t := t) h1 h2
    have hq := link_pos t h1
    rw [List.cons_append, List.nodup_cons] at hn
    have hxp : x ∉ pile := fun hm => hn.1 (by simp [hm])
    have hxl : x ∉ l := fun hm => hn.1 (by simp [hm])
    have hpp := push_pool hp h1 h2 hxp
    have hcl : ChainW (pushX X t x) t c l (firstF (X.at (linkI t x))) := h3.keep fun y hy hy1 => by
      have hy0 := link_pos t hy1
      exact pushX_at (by omega) (link_ne hy1 h1 (fun e => hxl (e ▸ hy)))
    have hnd : (l ++ x :: pile).Nodup := by
      rw [List.nodup_append] at hn ⊢
      refine ⟨hn.2.1, List.nodup_cons.2 ⟨hxp, hn.2.2.1⟩, fun a ha b hb => ?_⟩
      rcases List.mem_cons.1 hb with rfl | hb
      · intro e; subst e; exact hxl ha
      · exact hn.2.2.2 a ha b hb
    obtain ⟨ih1, ih2⟩ := chain_drain (me := me) (f := f) l (pushX X t x) _ (x :: pile) g hpp.1 hcl hnd (by simp at hg; omega)
    rw [drain_cons]
    refine ⟨?_, by simpa using ih2⟩
    unfold chainT
    rw [if_neg (by omega), hr]
    have hsum : 4 * (x :: l).length = (3 + 4 * l.length) + 1 := by simp; omega
    rw [hsum]
    refine goes_load (by omega) (by rw [hp.dim.len]; omega) ?_
    exact Goes.bind (push_goes hp.dim h1 h2 me f) ih1
/-! Apart: what lies in one row lies in no other. -/
theorem EpS.apart {S : EpS} (h : S.all.Nodup) : S.pile.Nodup ∧ (∀ i, i < 3 → (S.L i).Nodup) ∧ (∀ i, i < 3 → ∀ x ∈ S.L i, x ∉ S.pile) ∧ (∀ i, i < 3 → ∀ j, j < 3 → i ≠ j → ∀ x ∈ S.L i, x ∉ S.L j) := by
  unfold EpS.all at h
  simp only [List.nodup_append] at h
  obtain ⟨h1, ⟨h2, ⟨h3, h4, h5⟩, h6⟩, h7⟩ := h
  refine ⟨h1, ?_, ?_, ?_⟩
  · intro i hi
    obtain rfl | rfl | rfl : i = 0 ∨ i = 1 ∨ i = 2 := by omega
    · exact h2
    · exact h3
    · exact h4
  · intro i hi x hx hp
    obtain rfl | rfl | rfl : i = 0 ∨ i = 1 ∨ i = 2 := by omega
    · exact h7 x hp x (by simp [hx]) rfl
    · exact h7 x hp x (by simp [hx]) rfl
    · exact h7 x hp x (by simp [hx]) rfl
  · intro i hi j hj hij x hx hy
    obtain rfl | rfl | rfl : i = 0 ∨ i = 1 ∨ i = 2 := by omega
    · obtain rfl | rfl : j = 1 ∨ j = 2 := by omega
      · exact h6 x hx x (by simp [hy]) rfl
      · exact h6 x hx x (by simp [hy]) rfl
    · obtain rfl | rfl : j = 0 ∨ j = 2 := by omega
      · exact h6 x hy x (by simp [hx]) rfl
      · exact h5 x hx x hy rfl
    · obtain rfl | rfl : j = 0 ∨ j = 1 := by omega
      · exact h6 x hy x (by simp [hx]) rfl
      · exact h5 x hy x hx rfl
theorem EpS.mem_all {S : EpS} {x : Int} : x ∈ S.all ↔ x ∈ S.pile ∨ x ∈ S.L 0 ∨ x ∈ S.L 1 ∨ x ∈ S.L 2 := by
  unfold EpS.all; simp
theorem EpS.in_all {S : EpS} {i : Nat} (hi : i < 3) {x : Int} (h : x ∈ S.L i) : x ∈ S.all := by
  rw [EpS.mem_all]
  obtain rfl | rfl | rfl : i = 0 ∨ i = 1 ∨ i = 2 := by omega
  · simp [h]
  · simp [h]
  · simp [h]
theorem EpK.rng {X : WldK} {t c : Nat} {S : EpS} (h : EpK X t c S) : ∀ x ∈ S.all, 1 ≤ x ∧ x ≤ (c : Int) := fun x hx => by
  rcases EpS.mem_all.1 hx with hx | hx | hx | hx
  · exact h.pool.chain.mem x hx
  · exact (h.lim 0 (by omega)).mem x hx
  · exact (h.lim 1 (by omega)).mem x hx
  · exact (h.lim 2 (by omega)).mem x hx
theorem EpK.lim_len {X : WldK} {t c : Nat} {S : EpS} (h : EpK X t c S) {i : Nat} (hi : i < 3) : (S.L i).length ≤ c := nodup_len c _ ((EpS.apart h.nodup).2.1 i hi) (h.lim i hi).mem
/-! The operations. -/
def EpS.pin (S : EpS) (me : Nat) (v : Int) : EpS := { S with P := fun i => if i = me then v else S.P i }
def EpS.retire (S : EpS) (x : Int) : EpS := { S with L := fun i => if i = S.e % 3 then x :: S.L i else S.L i }
def EpS.drain (S : EpS) : EpS := ⟨S.e + 1, (S.L ((S.e + 2) % 3)).reverse ++ S.pile, fun i => if i = (S.e + 2) % 3 then [] else S.L i, S.P⟩
def EpS.okP (S : EpS) (t : Nat) : Prop := ∀ i, i < t → S.P i = 0 ∨ S.P i = (S.e : Int) + 1
instance (S : EpS) (t : Nat) : Decidable (S.okP t) := inferInstanceAs (Decidable (∀ i, i < t → S.P i = 0 ∨ S.P i = (S.e : Int) + 1))
def EpS.adv (S : EpS) (t : Nat) : EpS := if S.okP t then S.drain else S
def EpS.pop (S : EpS) : EpS := { S with pile := S.pile.tail }
def allocS (t me : Nat) : Nat → EpS → Int → EpS × Int
  | 0, S, r => (S, r)
  | k + 1, S, r => if r = 0 then allocS t me k (((S.pin me ((S.e : Int) + 1)).adv t).pop) (((S.pin me ((S.e : Int) + 1)).adv t).pile.headD 0) else (S, r)
def EpS.alloc (S : EpS) (t me : Nat) : EpS × Int := allocS t me 3 S.pop (S.pile.headD 0)
theorem inc_nat {e : Nat} (h : e ≤ 1000000) : incW (e : Int) = (e : Int) + 1 := by unfold incW; omega
/-- a cell that no chain of the operations reads: pins, the epoch -/
theorem pin_goes {X : WldK} {t c : Nat} {S : EpS} (h : EpK X t c S) (he : S.e ≤ 1000000) {me : Nat} (hme : me < t) : ∃ X', Goes (me : Int) (pinT me) X 2 0 X' ∧ EpK X' t c (S.pin me ((S.e : Int) + 1)) := by
  obtain ⟨-, hlen⟩ := at_ge X h.dim
  refine ⟨X.put (8 + (me : Int)) ((S.e : Int) + 1), ?_, ?_⟩
  · refine goes_load (by omega) (by omega) ?_
    rw [h.ep, inc_nat he]
    refine goes_store (by omega) (by omega) ?_
    exact Goes.ret _ _
  · have hu : U64 ((S.e : Int) + 1) := by unfold U64; omega
    have hk : ∀ l r, ChainW X t c l r → ChainW (X.put (8 + (me : Int)) ((S.e : Int) + 1)) t c l r := fun l r hc => hc.keep fun y _ hy => at_put_other (by have := link_pos t hy; omega)
    refine ⟨⟨h.dim.put hu, ?_, h.pool.nodup⟩, ?_, h.nodup, ?_, ?_⟩
    · rw [at_put_other (by omega)]; exact hk _ _ h.pool.chain
    · intro i hi
      rw [at_put_other (by omega)]; exact hk _ _ (h.lim i hi)
    · rw [at_put_other (by omega)]; exact h.ep
    · intro i hi
      by_cases e : i = me
      · subst e
        rw [at_put_same (by omega)]; simp [EpS.pin]
      · rw [at_put_other (by omega), h.pins i hi]; simp [EpS.pin, e]
theorem unpin_goes {X : WldK} {t c : Nat} {S : EpS} (h : EpK X t c S) {me : Nat} (hme : me < t) : ∃ X', Goes (me : Int) (unpinT me) X 1 0 X' ∧ EpK X' t c (S.pin me 0) := by
  obtain ⟨-, hlen⟩ := at_ge X h.dim
  refine ⟨X.put (8 + (me : Int)) 0, ?_, ?_⟩
  · refine goes_store (by omega) (by omega) ?_
    exact Goes.ret _ _
  · have hk : ∀ l r, ChainW X t c l r → ChainW (X.put (8 + (me : Int)) 0) t c l r := fun l r hc => hc.keep fun y _ hy => at_put_other (by have := link_pos t hy; omega)
    refine ⟨⟨h.dim.put u64_zero, ?_, h.pool.nodup⟩, ?_, h.nodup, ?_, ?_⟩
    · rw [at_put_other (by omega)]; exact hk _ _ h.pool.chain
    · intro i hi
      rw [at_put_other (by omega)]; exact hk _ _ (h.lim i hi)
    · rw [at_put_other (by omega)]; exact h.ep
    · intro i hi
      by_cases e : i = me
      · subst e
        rw [at_put_same (by omega)]; simp [EpS.pin]
      · rw [at_put_other (by omega), h.pins i hi]; simp [EpS.pin, e]
theorem retire_all {S : EpS} {x : Int} : (S.retire x).all.Perm (x :: S.all) := by
  rw [List.perm_iff_count]
  intro a
  have hlt : S.e % 3 < 3 := Nat.mod_lt _ (by omega)
  unfold EpS.all EpS.retire
  obtain h | h | h : S.e % 3 = 0 ∨ S.e % 3 = 1 ∨ S.e % 3 = 2 := by omega
  all_goals
    simp only [h, List.count_append, List.count_cons]
    simp [List.count_cons]
    omega
theorem drain_all (S : EpS) : S.drain.all.Perm S.all := by
  rw [List.perm_iff_count]
  intro a
  unfold EpS.all EpS.drain
  obtain h | h | h : (S.e + 2) % 3 = 0 ∨ (S.e + 2) % 3 = 1 ∨ (S.e + 2) % 3 = 2 := by omega
  all_goals
    simp only [h, List.count_append, List.count_reverse]
    simp
    omega
theorem limbo_nat (e : Nat) : limboI (e : Int) = 4 + ((e % 3 : Nat) : Int) := by unfold limboI; omega
theorem firstF_small {x : Int} (h0 : 0 ≤ x) (h1 : x < 1048576) : firstF x = x := by unfold firstF; omega
theorem retire_goes {X : WldK} {t c : Nat} {S : EpS} (h : EpK X t c S) (me : Int) {x : Int} (h1 : 1 ≤ x) (h2 : x ≤ (c : Int)) (hx : x ∉ S.all) (f : Nat) : ∃ X', Goes me (retireT t x (f + 1)) X 4 0 X' ∧ EpK X' t c (S.retire x) := by
  obtain ⟨-, hlen⟩ := at_ge X h.dim
  have hl := link_in (t := t) h1 h2
  have hp := link_pos t h1
  have hc2 := h.dim.c2
  have hlt : S.e % 3 < 3 := Nat.mod_lt _ (by omega)
  have hall := retire_all (S := S) (x := x)
  have hap := EpS.apart h.nodup
  obtain ⟨d, hd⟩ : ∃ d, d = S.e % 3 := ⟨_, rfl⟩
  refine ⟨(X.put (linkI t x) (X.at (4 + (d : Int)))).put (4 + (d : Int)) x, ?_, ?_⟩
  · refine goes_load (by omega) (by omega) ?_
    rw [h.ep, limbo_nat, ← hd]
    refine goes_load (by omega) (by omega) ?_
    refine goes_store (by omega) (by rw [h.dim.len]; omega) ?_
    refine goes_cas (by omega) (by rw [put_len]; omega) (at_put_other (by omega)) ?_
    rw [if_pos rfl]
    exact Goes.ret _ _
  · have hu : U64 x := by unfold U64; omega
    have hne : ∀ l r, ChainW X t c l r → x ∉ l → ChainW ((X.put (linkI t x) (X.at (4 + (d : Int)))).put (4 + (d : Int)) x) t c l r := fun l r hc hxl => hc.keep fun y hy hy1 => by
      have := link_pos t hy1
      rw [at_put_other (by omega), at_put_other (link_ne hy1 h1 (fun e => hxl (e ▸ hy)))]
    have hxa : ∀ i, i < 3 → x ∉ S.L i := fun i hi hm => hx (EpS.in_all hi hm)
    have hxp : x ∉ S.pile := fun hm => hx (EpS.mem_all.2 (.inl hm))
    refine ⟨⟨(h.dim.put (h.dim.u _)).put hu, ?_, h.pool.nodup⟩, ?_, ?_, ?_, ?_⟩
    · rw [at_put_other (by omega), at_put_other (by omega)]; exact hne _ _ h.pool.chain hxp
    · intro i hi
      by_cases e : i = d
      · subst e
        rw [at_put_same (by rw [put_len]; omega)]
        have hlL : (S.retire x).L i = x :: S.L i := by simp [EpS.retire, hd]
        rw [hlL, firstF_small (by omega) (by omega)]
        refine ⟨rfl, h1, h2, ?_⟩
        rw [at_put_other (by omega), at_put_same (by rw [h.dim.len]; omega)]
        exact hne _ _ (h.lim i hi) (hxa i hi)
      · have hlL : (S.retire x).L i = S.L i := by simp only [EpS.retire]; rw [if_neg (by omega)]
        rw [hlL, at_put_other (by omega), at_put_other (by omega)]
        exact hne _ _ (h.lim i hi) (hxa i hi)
    · rw [hall.nodup_iff]; exact List.nodup_cons.2 ⟨hx, h.nodup⟩
    · rw [at_put_other (by omega), at_put_other (by omega)]; exact h.ep
    · intro i hi
      rw [at_put_other (by omega), at_put_other (by omega)]; exact h.pins i hi
theorem pins_goes {X : WldK} {t c : Nat} {S : EpS} (h : EpK X t c S) (he : S.e ≤ 1000000) (me : Int) : ∀ (n i : Nat), i + n = t → ∃ j b, j ≤ n ∧ Goes me (pinsT (S.e : Int) n (i : Int)) X j b X ∧ (b = true ↔ ∀ k, i ≤ k → k < t → S.P k = 0 ∨ S.P k = (S.e : Int) + 1)
  | 0, i, hi => ⟨0, true, Nat.le_refl _, Goes.ret _ _, by simp; intro k h1 h2; omega⟩
  | n + 1, i, hi => by
    obtain ⟨-, hlen⟩ := at_ge X h.dim
    have hP := h.pins i (by omega)
    by_cases hg : S.P i = 0 ∨ S.P i = (S.e : Int) + 1
    · obtain ⟨j, b, hj, hgo, hb⟩ := pins_goes h he me n (i + 1) (by omega)
      refine ⟨j + 1, b, by omega, ?_, ?_⟩
      · refine goes_load (by omega) (by omega) ?_
        rw [hP, inc_nat he, if_pos hg]
        exact hgo
      · rw [hb]
        refine ⟨fun hk k h1 h2 => ?_, fun hk k h1 h2 => hk k (by omega) h2⟩
        rcases Nat.lt_or_ge i k with h3 | h3
        · exact hk k (by omega) h2
        · obtain rfl : k = i := by omega
          exact hg
    · refine ⟨1, false, by omega, ?_, ?_⟩
      · refine goes_load (by omega) (by omega) ?_
        rw [hP, inc_nat he, if_neg hg]
        exact Goes.ret _ _
      · simp only [Bool.false_eq_true, false_iff]
        intro hk
        exact hg (hk i (Nat.le_refl _) (by omega))
theorem Dim.three {X : WldK} {t c : Nat} (h : Dim X t c) : (7 : Int) < (X.ws.length : Int) := by have := at_ge X h; have := h.t1; omega
theorem adv_goes {X : WldK} {t c : Nat} {S : EpS} (h : EpK X t c S) (he : S.e ≤ 1000000) (me : Int) (f : Nat) (hf : c ≤ f) : ∃ X' j, j ≤ 3 + t + 4 * c ∧ Goes me (advT t (f + 1)) X j (decide (S.okP t)) X' ∧ EpK X' t c (S.adv t) := by
  have hlen := h.dim.three
  have ht := h.dim.t1
  obtain ⟨j, b, hj, hgo, hb⟩ := pins_goes h he me t 0 (by omega)
  have hb2 : b = decide (S.okP t) := by
    rw [Bool.eq_iff_iff, hb, decide_eq_true_iff]
    exact ⟨fun hk i hi => hk i (Nat.zero_le _) hi, fun hk i _ hi => hk i hi⟩
  by_cases hok : S.okP t
  · have hbt : b = true := by rw [hb2]; exact decide_eq_true hok
    subst hbt
    obtain ⟨d, hd⟩ : ∃ d, d = (S.e + 2) % 3 := ⟨_, rfl⟩
    have hd3 : d < 3 := by rw [hd]; exact Nat.mod_lt _ (by omega)
    have hld := h.lim_len hd3
    have hap := EpS.apart h.nodup
    obtain ⟨X1, hX1⟩ : ∃ X1, X1 = X.put 3 ((S.e : Int) + 1) := ⟨_, rfl⟩
    obtain ⟨X2, hX2⟩ : ∃ X2, X2 = X1.put (4 + (d : Int)) 0 := ⟨_, rfl⟩
    have hu : U64 ((S.e : Int) + 1) := by unfold U64; omega
    have hl1 : X1.ws.length = X.ws.length := by rw [hX1, put_len]
    have hl2 : X2.ws.length = X.ws.length := by rw [hX2, put_len, hl1]
    have hat : ∀ j : Int, j.toNat ≠ 3 → j.toNat ≠ (4 + (d : Int)).toNat → X2.at j = X.at j := fun j h1 h2 => by
      rw [hX2, at_put_other h2, hX1, at_put_other (by omega)]
    have hk : ∀ l r, ChainW X t c l r → ChainW X2 t c l r := fun l r hc => hc.keep fun y _ hy => by
      have := link_pos t hy
      exact hat _ (by omega) (by omega)
    have hD2 : Dim X2 t c := by rw [hX2, hX1]; exact (h.dim.put hu).put u64_zero
    have hp2 : PoolK X2 t c S.pile := ⟨hD2, by rw [hat 1 (by omega) (by omega)]; exact hk _ _ h.pool.chain, h.pool.nodup⟩
    have hnd : (S.L d ++ S.pile).Nodup := by
      rw [List.nodup_append]
      refine ⟨hap.2.1 d hd3, hap.1, fun a ha b hb e => ?_⟩
      subst e
      exact hap.2.2.1 d hd3 a ha hb
    obtain ⟨hg3, hp3⟩ := chain_drain (me := me) (f := f) (S.L d) X2 (firstF (X.at (4 + (d : Int)))) S.pile (f + 1) hp2 (hk _ _ (h.lim d hd3)) hnd (by omega)
    refine ⟨drainX X2 t (S.L d), 1 + (j + (1 + (1 + (4 * (S.L d).length + 0)))), by omega, ?_, ?_⟩
    · rw [decide_eq_true hok, show 1 + (j + (1 + (1 + (4 * (S.L d).length + 0)))) = (j + (1 + (1 + (4 * (S.L d).length + 0)))) + 1 by omega]
      refine goes_load (by omega) (by omega) ?_
      rw [h.ep, Int.toNat_natCast]
      refine Goes.bind hgo ?_
      rw [if_pos rfl, show 1 + (1 + (4 * (S.L d).length + 0)) = (1 + (4 * (S.L d).length + 0)) + 1 by omega]
      refine goes_cas (by omega) (by omega) h.ep ?_
      rw [if_pos rfl, inc_nat he, ← hX1, show ((S.e : Int) + 2) % 18446744073709551616 = ((S.e + 2 : Nat) : Int) by omega, limbo_nat, ← hd, show 1 + (4 * (S.L d).length + 0) = (4 * (S.L d).length + 0) + 1 by omega]
      refine goes_swap (by omega) (by rw [hl1]; omega) ?_
      rw [← hX2, show X1.at (4 + (d : Int)) = X.at (4 + (d : Int)) by rw [hX1, at_put_other (by omega)]]
      exact Goes.cast (Goes.bind hg3 (Goes.ret true _)) (Nat.add_zero _)
    · have hS : S.adv t = S.drain := by unfold EpS.adv; rw [if_pos hok]
      have hlk : ∀ (j : Int), 0 ≤ j → j < 15 + (t : Int) → ∀ x ∈ S.L d, j.toNat ≠ (linkI t x).toNat := fun j h0 h1 x hx => by
        have := link_pos t ((h.lim d hd3).mem x hx).1
        omega
      rw [hS]
      refine ⟨?_, ?_, ?_, ?_, ?_⟩
      · show PoolK _ t c ((S.L ((S.e + 2) % 3)).reverse ++ S.pile)
        rw [← hd]; exact hp3
      · intro i hi
        rw [drain_at (by omega) _ _ (hlk _ (by omega) (by omega))]
        by_cases e : i = d
        · subst e
          have hlL : S.drain.L i = [] := by simp only [EpS.drain]; rw [if_pos hd]
          rw [hlL, hX2, at_put_same (by omega)]
          rfl
        · have hlL : S.drain.L i = S.L i := by simp only [EpS.drain]; rw [if_neg (by omega)]
          rw [hlL, hat _ (by omega) (by omega)]
          refine (hk _ _ (h.lim i hi)).keep fun y hy hy1 => drain_at (by have := link_pos t hy1; omega) _ _ fun x hx => ?_
          exact link_ne hy1 ((h.lim d hd3).mem x hx).1 (fun e2 => hap.2.2.2 d hd3 i hi (fun e3 => e e3.symm) x hx (e2 ▸ hy))
      · rw [(drain_all S).nodup_iff]; exact h.nodup
      · rw [drain_at (by omega) _ _ (hlk _ (by omega) (by omega)), hX2, at_put_other (by omega), hX1, at_put_same (by omega)]
        simp [EpS.drain]
      · intro i hi
        rw [drain_at (by omega) _ _ (hlk _ (by omega) (by omega)), hat _ (by omega) (by omega)]
        exact h.pins i hi
  · have hbf : b = false := by rw [hb2]; exact decide_eq_false hok
    subst hbf
    refine ⟨X, 1 + (j + 0), by omega, ?_, by unfold EpS.adv; rw [if_neg hok]; exact h⟩
    rw [decide_eq_false hok, show 1 + (j + 0) = (j + 0) + 1 by omega]
    refine goes_load (by omega) (by omega) ?_
    rw [h.ep, Int.toNat_natCast]
    refine Goes.cast (Goes.bind hgo ?_) (Nat.add_zero _)
    simp only [Bool.false_eq_true, if_false]
    exact Goes.ret _ _
theorem popS_goes {X : WldK} {t c : Nat} {S : EpS} (h : EpK X t c S) (me : Int) (f : Nat) : ∃ X' j, j ≤ 3 ∧ Goes me (popT t (f + 1)) X j (S.pile.headD 0) X' ∧ EpK X' t c S.pop := by
  cases hp : S.pile with
  | nil =>
    have hpk := h.pool
    rw [hp] at hpk
    refine ⟨X, 1, by omega, pop_none hpk me f, ?_⟩
    have : S.pop = S := by unfold EpS.pop; rw [hp]; cases S; simp_all
    rw [this]; exact h
  | cons x l =>
    have hpk := h.pool
    rw [hp] at hpk
    have hpp := (pop_pool hpk).1
    obtain ⟨hx, h1, h2, h3⟩ := hpk.chain
    have hat : ∀ j : Int, j.toNat ≠ 1 → (popX X t).at j = X.at j := fun j hj => by unfold popX; exact at_put_other (by omega)
    refine ⟨popX X t, 3, by omega, pop_goes hpk me f, ⟨?_, ?_, ?_, ?_, ?_⟩⟩
    · have : S.pop.pile = l := by simp [EpS.pop, hp]
      rw [this]; exact hpp
    · intro i hi
      rw [hat _ (by omega)]
      exact (h.lim i hi).keep fun y _ hy => hat _ (by have := link_pos t hy; omega)
    · have := h.nodup
      unfold EpS.all at this ⊢
      rw [hp, List.cons_append, List.nodup_cons] at this
      simpa [EpS.pop, hp] using this.2
    · rw [hat _ (by omega)]; exact h.ep
    · intro i hi; rw [hat _ (by omega)]; exact h.pins i hi
theorem adv_e (S : EpS) (t : Nat) : (S.adv t).e ≤ S.e + 1 := by
  unfold EpS.adv; split
  · exact Nat.le_refl _
  · exact Nat.le_succ _
theorem allocL_goes {t c : Nat} {me : Nat} (hme : me < t) (f : Nat) (hf : c ≤ f) : ∀ (k : Nat) (X : WldK) (S : EpS) (r : Int), EpK X t c S → S.e + k ≤ 1000000 → ∃ X' j, j ≤ k * (8 + t + 4 * c) ∧ Goes (me : Int) (allocL t me (f + 1) k r) X j (allocS t me k S r).2 X' ∧ EpK X' t c (allocS t me k S r).1
  | 0, X, S, r, h, _ => ⟨X, 0, by omega, Goes.ret _ _, h⟩
  | k + 1, X, S, r, h, he => by
    by_cases hr : r = 0
    · obtain ⟨X1, g1, h1⟩ := pin_goes h (by omega) hme
      have e1 : (S.pin me ((S.e : Int) + 1)).e = S.e := rfl
      obtain ⟨X2, j2, l2, g2, h2⟩ := adv_goes h1 (by omega) (me : Int) f hf
      obtain ⟨X3, j3, l3, g3, h3⟩ := popS_goes h2 (me : Int) f
      have e2 := adv_e (S.pin me ((S.e : Int) + 1)) t
      obtain ⟨X4, j4, l4, g4, h4⟩ := allocL_goes hme f hf k X3 _ (((S.pin me ((S.e : Int) + 1)).adv t).pile.headD 0) h3 (by
        show ((S.pin me ((S.e : Int) + 1)).adv t).e + k ≤ 1000000
        omega)
      refine ⟨X4, 2 + (j2 + (j3 + j4)), ?_, ?_, ?_⟩
      · rw [Nat.succ_mul]; omega
      · unfold allocL allocS
        rw [if_pos hr, if_pos hr]
        exact Goes.bind g1 (Goes.bind g2 (Goes.bind g3 g4))
      · unfold allocS; rw [if_pos hr]; exact h4
    · refine ⟨X, 0, by omega, ?_, by unfold allocS; rw [if_neg hr]; exact h⟩
      unfold allocL allocS
      rw [if_neg hr, if_neg hr]
      exact Goes.ret _ _
theorem alloc_goes {X : WldK} {t c : Nat} {S : EpS} (h : EpK X t c S) {me : Nat} (hme : me < t) (he : S.e + 3 ≤ 1000000) (f : Nat) (hf : c ≤ f) : ∃ X' j, j ≤ 27 + 3 * t + 12 * c ∧ Goes (me : Int) (allocT t me (f + 1)) X j (S.alloc t me).2 X' ∧ EpK X' t c (S.alloc t me).1 := by
  obtain ⟨X1, j1, l1, g1, h1⟩ := popS_goes h (me : Int) f
  obtain ⟨X2, j2, l2, g2, h2⟩ := allocL_goes hme f hf 3 X1 _ (S.pile.headD 0) h1 he
  exact ⟨X2, j1 + j2, by omega, Goes.bind g1 g2, h2⟩
/-! The operations, stepping alone: what 'alone' answers. -/
theorem ep_alone {t me f most : Nat} {k u : Int} {X X' : WldK} {j : Nat} {o : OutN} (hg : Goes (me : Int) (epochT t me k u f) X j o X') (hj : j ≤ most) : aloneN (nextT (epochT t me k u f)) me (most + 1) X [] = (X', o, true) :=
  alone_goes (T0 := epochT t me k u f) hg (fun _ _ => rfl) (by cases epochT t me k u f <;> rfl) (by cases epochT t me k u f <;> trivial) (by omega)
theorem eunpin_alone {X : WldK} {t c : Nat} {S : EpS} (h : EpK X t c S) {me : Nat} (hme : me < t) (u : Int) (f : Nat) (most : Nat) (hm : 1 ≤ most) : ∃ X', aloneN (nextT (epochT t me 4 u f)) me (most + 1) X [] = (X', ⟨0, false, 0, 0⟩, true) ∧ EpK X' t c (S.pin me 0) := by
  obtain ⟨X', g, h'⟩ := unpin_goes h hme
  refine ⟨X', ep_alone (j := 1) ?_ hm, h'⟩
  unfold epochT; rw [if_neg (by omega), if_pos (by omega)]
  exact Goes.cast (Goes.bind g (Goes.ret _ _)) (Nat.add_zero _)
theorem eretire_alone {X : WldK} {t c : Nat} {S : EpS} (h : EpK X t c S) {me x : Nat} (h1 : 1 ≤ x) (h2 : x ≤ c) (hx : (x : Int) ∉ S.all) (f : Nat) (most : Nat) (hm : 4 ≤ most) : ∃ X', aloneN (nextT (epochT t me 5 x (f + 1))) me (most + 1) X [] = (X', ⟨0, false, 0, 0⟩, true) ∧ EpK X' t c (S.retire x) := by
  obtain ⟨X', g, h'⟩ := retire_goes h (me : Int) (x := (x : Int)) (by omega) (by omega) hx f
  refine ⟨X', ep_alone (j := 4) ?_ hm, h'⟩
  unfold epochT; rw [if_neg (by omega), if_neg (by omega), if_pos (by omega)]
  exact Goes.cast (Goes.bind g (Goes.ret _ _)) (Nat.add_zero _)
theorem ealloc_alone {X : WldK} {t c : Nat} {S : EpS} (h : EpK X t c S) (he : S.e + 3 ≤ 1000000) {me : Nat} (hme : me < t) (u : Int) (f : Nat) (hf : c ≤ f) (most : Nat) (hm : 27 + 3 * t + 12 * c ≤ most) : ∃ X', aloneN (nextT (epochT t me 6 u (f + 1))) me (most + 1) X [] = (X', ⟨0, false, (S.alloc t me).2, 0⟩, true) ∧ EpK X' t c (S.alloc t me).1 := by
  obtain ⟨X', j, hj, g, h'⟩ := alloc_goes h hme he f hf
  refine ⟨X', ep_alone (j := j) ?_ (by omega), h'⟩
  unfold epochT; rw [if_neg (by omega), if_neg (by omega), if_neg (by omega), if_neg (by omega), if_pos (by omega)]
  exact Goes.cast (Goes.bind g (Goes.ret _ _)) (Nat.add_zero _)
end Go.Proofs.Ytjokaginolpbeaa

namespace Go.Proofs.Ytjokaginolpbeaa
open Go.RowKit

/-! What an allocation takes, and leaves. -/
/-- no other thread is pinned -/
def EpS.lone (S : EpS) (t me : Nat) : Prop := ∀ i, i < t → i ≠ me → S.P i = 0
theorem lone_ok {S : EpS} {t me : Nat} (h : S.lone t me) : (S.pin me ((S.e : Int) + 1)).okP t := fun i hi => by
  by_cases e : i = me
  · right; simp [EpS.pin, e]
  · left; simp [EpS.pin, e]; exact h i hi e
theorem pop_none_all {S : EpS} (h : S.pile = []) : S.pop.all = S.all := by unfold EpS.pop EpS.all; rw [h]; rfl
theorem pop_some_all {S : EpS} {x : Int} {l : List Int} (h : S.pile = x :: l) : S.all = x :: S.pop.all := by unfold EpS.pop EpS.all; rw [h]; rfl
/-- the limbos behind are empty -/
def EpS.behind (S : EpS) (k : Nat) : Prop := ∀ j, k ≤ j → j < 3 → S.L ((S.e + 2 + j) % 3) = []
theorem behind_all {S : EpS} (h : S.behind 0) (hp : S.pile = []) : S.all = [] := by
  have h0 := h 0 (by omega) (by omega)
  have h1 := h 1 (by omega) (by omega)
  have h2 := h 2 (by omega) (by omega)
  have hL : ∀ i, i < 3 → S.L i = [] := fun i hi => by
    obtain e | e | e : i = (S.e + 2 + 0) % 3 ∨ i = (S.e + 2 + 1) % 3 ∨ i = (S.e + 2 + 2) % 3 := by omega
    · rw [e]; exact h0
    · rw [e]; exact h1
    · rw [e]; exact h2
  unfold EpS.all
  rw [hp, hL 0 (by omega), hL 1 (by omega), hL 2 (by omega)]; rfl
theorem drain_behind {S : EpS} {k : Nat} (h : S.behind (k + 1)) : S.drain.behind k := fun j h1 h2 => by
  have ee : S.drain.e = S.e + 1 := rfl
  rw [ee]
  have eL : ∀ i, S.drain.L i = if i = (S.e + 2) % 3 then [] else S.L i := fun _ => rfl
  rw [eL]
  by_cases e : (S.e + 1 + 2 + j) % 3 = (S.e + 2) % 3
  · rw [if_pos e]
  · rw [if_neg e]
    have hj : j ≠ 2 := fun e2 => e (by omega)
    have := h (j + 1) (by omega) (by omega)
    rw [show S.e + 1 + 2 + j = S.e + 2 + (j + 1) by omega]
    exact this
structure AllocR (S0 : EpS) (t me : Nat) (q : EpS × Int) : Prop where
  none : q.2 = 0 → q.1.all = [] ∧ S0.all = []
  some : q.2 ≠ 0 → S0.all.Perm (q.2 :: q.1.all)
  lone : q.1.lone t me
theorem allocS_some {t me : Nat} : ∀ (k : Nat) (S : EpS) (r : Int), r ≠ 0 → allocS t me k S r = (S, r)
  | 0, S, r, _ => rfl
  | k + 1, S, r, h => by unfold allocS; rw [if_neg h]
theorem allocS_spec {S0 : EpS} {t me : Nat} : ∀ (k : Nat) (S : EpS), S.pile = [] → S.behind k → S0.all.Perm S.all → S.lone t me → (∀ x ∈ S.all, 1 ≤ x) → AllocR S0 t me (allocS t me k S 0)
  | 0, S, hp, hb, hall, hl, _ => by
    have h0 := behind_all hb hp
    refine ⟨fun _ => ⟨h0, ?_⟩, fun h => absurd rfl h, hl⟩
    rw [h0] at hall
    exact hall.eq_nil
  | k + 1, S, hp, hb, hall, hl, hx => by
    unfold allocS
    rw [if_pos rfl]
    have hok := lone_ok hl
    have hadv : (S.pin me ((S.e : Int) + 1)).adv t = (S.pin me ((S.e : Int) + 1)).drain := by unfold EpS.adv; rw [if_pos hok]
    rw [hadv]
    have hb2 : (S.pin me ((S.e : Int) + 1)).drain.behind k := drain_behind (S := S.pin me ((S.e : Int) + 1)) (k := k) hb
    have hperm : (S.pin me ((S.e : Int) + 1)).drain.all.Perm S.all := drain_all _
    have hl2 : (S.pin me ((S.e : Int) + 1)).drain.lone t me := fun i hi he => by
      show (S.pin me ((S.e : Int) + 1)).P i = 0
      simp [EpS.pin, he]; exact hl i hi he
    generalize (S.pin me ((S.e : Int) + 1)).drain = S2 at *
    cases hp2 : S2.pile with
    | nil =>
      show AllocR S0 t me (allocS t me k S2.pop 0)
      refine allocS_spec k S2.pop (by simp [EpS.pop, hp2]) hb2 ?_ hl2 ?_
      · rw [pop_none_all hp2]; exact hall.trans hperm.symm
      · rw [pop_none_all hp2]; exact fun x hm => hx x (hperm.mem_iff.1 hm)
    | cons y l =>
      have hy : 1 ≤ y := hx y (hperm.mem_iff.1 (EpS.mem_all.2 (.inl (by rw [hp2]; simp))))
      show AllocR S0 t me (allocS t me k S2.pop y)
      rw [allocS_some k _ y (by omega)]
      refine ⟨fun h => absurd h (by simp; omega), fun _ => ?_, hl2⟩
      show S0.all.Perm (y :: S2.pop.all)
      rw [← pop_some_all hp2]
      exact hall.trans hperm.symm
theorem alloc_spec {S : EpS} {t me : Nat} (hl : S.lone t me) (hx : ∀ x ∈ S.all, 1 ≤ x) : AllocR S t me (S.alloc t me) := by
  unfold EpS.alloc
  cases hp : S.pile with
  | nil =>
    show AllocR S t me (allocS t me 3 S.pop 0)
    refine allocS_spec 3 S.pop (by simp [EpS.pop, hp]) (fun j h1 h2 => by omega) ?_ hl ?_
    · rw [pop_none_all hp]
    · rw [pop_none_all hp]; exact hx
  | cons y l =>
    have hy : 1 ≤ y := hx y (EpS.mem_all.2 (.inl (by rw [hp]; simp)))
    show AllocR S t me (allocS t me 3 S.pop y)
    rw [allocS_some 3 _ y (by omega)]
    refine ⟨fun h => absurd h (by simp; omega), fun _ => ?_, hl⟩
    show S.all.Perm (y :: S.pop.all)
    rw [← pop_some_all hp]
theorem alloc_e {t me : Nat} : ∀ (k : Nat) (S : EpS) (r : Int), (allocS t me k S r).1.e ≤ S.e + k
  | 0, S, r => Nat.le_refl _
  | k + 1, S, r => by
    unfold allocS
    split
    · have h1 := alloc_e (t := t) (me := me) k (((S.pin me ((S.e : Int) + 1)).adv t).pop) (((S.pin me ((S.e : Int) + 1)).adv t).pile.headD 0)
      have h2 := adv_e (S.pin me ((S.e : Int) + 1)) t
      have h3 : ((S.pin me ((S.e : Int) + 1)).adv t).pop.e = ((S.pin me ((S.e : Int) + 1)).adv t).e := rfl
      have h4 : (S.pin me ((S.e : Int) + 1)).e = S.e := rfl
      omega
    · show S.e ≤ S.e + (k + 1)
      omega
theorem alloc_e3 (S : EpS) (t me : Nat) : (S.alloc t me).1.e ≤ S.e + 3 := alloc_e 3 S.pop _
/-- what is free, or retired, and what is had: all records, each once -/
structure HE (N : Nat) (S : EpS) (held : List Int) : Prop where
  nodup : (S.all ++ held).Nodup
  rng : ∀ x ∈ S.all ++ held, 1 ≤ x ∧ x ≤ (N : Int)
  len : S.all.length + held.length = N
theorem HE.hk {N : Nat} {S : EpS} {held : List Int} (h : HE N S held) : HK N S.all held := ⟨h.nodup, fun x hx => h.rng x (by simp [hx]), h.len⟩
theorem HE.perm {N : Nat} {S S' : EpS} {held : List Int} (h : HE N S held) (hp : S'.all.Perm S.all) : HE N S' held :=
  ⟨(hp.append_right held).nodup_iff.2 h.nodup, fun x hx => h.rng x ((hp.append_right held).mem_iff.1 hx), by rw [hp.length_eq]; exact h.len⟩
theorem HE.take {N : Nat} {S S' : EpS} {held : List Int} {x : Int} (h : HE N S held) (hp : S.all.Perm (x :: S'.all)) : HE N S' (held ++ [x]) := by
  have hq : (S'.all ++ (held ++ [x])).Perm (S.all ++ held) := by
    rw [List.perm_iff_count] at hp ⊢
    intro a
    have := hp a
    simp only [List.count_append, List.count_cons, List.count_nil] at this ⊢
    omega
  refine ⟨hq.nodup_iff.2 h.nodup, fun y hy => h.rng y (hq.mem_iff.1 hy), ?_⟩
  have := hq.length_eq
  have h3 := h.len
  simp only [List.length_append] at this ⊢
  omega
theorem HE.back {N : Nat} {S : EpS} {h1 h2 : List Int} {x : Int} (h : HE N S (h1 ++ x :: h2)) : HE N (S.retire x) (h1 ++ h2) ∧ x ∉ S.all ∧ 1 ≤ x ∧ x ≤ (N : Int) := by
  have hr := h.rng x (by simp)
  have hn := h.nodup
  rw [List.nodup_append] at hn
  have hx : x ∉ S.all := fun hm => hn.2.2 x hm x (by simp) rfl
  have hq : ((S.retire x).all ++ (h1 ++ h2)).Perm (S.all ++ (h1 ++ x :: h2)) := by
    have hp := retire_all (S := S) (x := x)
    rw [List.perm_iff_count] at hp ⊢
    intro a
    have := hp a
    simp only [List.count_append, List.count_cons] at this ⊢
    omega
  refine ⟨⟨hq.nodup_iff.2 h.nodup, fun y hy => h.rng y (hq.mem_iff.1 hy), ?_⟩, hx, hr.1, hr.2⟩
  have := hq.length_eq
  have h3 := h.len
  simp only [List.length_append, List.length_cons] at this h3 ⊢
  omega
def newS (c : Nat) : EpS := ⟨0, upFrom 1 c, fun _ => [], fun _ => 0⟩
theorem upFrom_len : ∀ n r, (upFrom r n).length = n
  | 0, _ => rfl
  | n + 1, r => by simp [upFrom, upFrom_len n]
theorem newS_all (c : Nat) : (newS c).all = upFrom 1 c := by simp [newS, EpS.all]
theorem newS_he (c : Nat) : HE c (newS c) [] := by
  refine ⟨by rw [newS_all, List.append_nil]; exact upFrom_nodup _ _, fun x hx => ?_, by rw [newS_all, upFrom_len]; simp⟩
  rw [newS_all, List.append_nil] at hx
  have := upFrom_mem hx
  omega
theorem newF_low {t c r i : Nat} (h1 : i ≠ 1) (h2 : i < 15 + t) : newF t c r i = 0 := by
  unfold newF
  rw [if_neg h1, if_neg (by omega)]
theorem newS_k {t c : Nat} (t1 : 1 ≤ t) (t2 : t ≤ 64) (hc : c ≤ 65536) : EpK (newW t c) t c (newS c) := by
  have hp := new_pool (t := t) (c := c) t1 t2 hc
  have hlow : ∀ i : Nat, i ≠ 1 → i < 8 + t → (newW t c).at (i : Int) = 0 := fun i h1 h2 => by
    rw [new_at t c i (by unfold memL; omega)]
    exact newF_low h1 (by omega)
  refine ⟨hp, fun i hi => ?_, by rw [newS_all]; exact upFrom_nodup _ _, ?_, fun i hi => ?_⟩
  · have := hlow (4 + i) (by omega) (by omega)
    rw [show (4 : Int) + (i : Int) = ((4 + i : Nat) : Int) by omega, this]
    rfl
  · have := hlow 3 (by omega) (by omega)
    exact this
  · have := hlow (8 + i) (by omega) (by omega)
    rw [show (8 : Int) + (i : Int) = ((8 + i : Nat) : Int) by omega, this]
    rfl
/-! Pins, and what three epochs give back. -/
/-! The contracts of 'alone'. -/
theorem eal_unpin {X : WldK} {t c : Nat} {S : EpS} (h : EpK X t c S) (hX : WOk X) {me : Nat} (hme : me < t)  (most : Nat) (hm : 1 ≤ most) (hm9 : most ≤ 900) : ∃ X', EpK X' t c (S.pin me 0) ∧ WOk X' ∧ ∀ (wv : Value) (v d : Int) (w : World), WldV w wv X →
    Calls Try.prog 22 #[wv, .int .i64 (me : Int), .agg #[.int .i64 4, .int .i64 0, .int .i64 v, .int .u64 d], .int .i64 (most : Int)] w fun e w' => ∃ v', e = .returned (.tuple #[v', .agg #[.int .i64 0, .bool false, .int .i64 0, .int .u64 0, .slice none 0 0], .bool true]) ∧ WldV w' v' X' ∧ Ext w w' := by
  obtain ⟨X', ha, hk⟩ := eunpin_alone h hme 0 (most + 1) most hm
  have hT := h.dim.T
  have ht2 := h.dim.t2
  have hw := (aloneN_ok (P := nextT (epochT t me 4 0 (most + 1))) (me := (me : Int)) (fun ns x h3 hx3 => epochN_ok _ _ _ _ _ (fun h5 => by unfold U64; omega) ns x h3 hx3) (most + 1) X [] hX (fun m hm => by cases hm)).1
  refine ⟨X', hk, ?_, fun wv v d w hV => ?_⟩
  · have ha2 := ha
    have e : (aloneN (nextT (epochT t me 4 0 (most + 1))) (me : Int) (most + 1) X []).1 = X' := by
      first
        | rw [ha2]
        | exact congrArg Prod.fst ha2
    rw [e] at hw; exact hw
  · have h1 := eal_any (most + 1) X t hT ht2 hX wv me 4 0 v d (most : Int) (by omega) (by omega) (by omega) most rfl (by omega) hm9 w hV
    have ha2 := ha
    rw [ha2] at h1
    exact h1
theorem eal_alloc {X : WldK} {t c : Nat} {S : EpS} (h : EpK X t c S) (hX : WOk X) {me : Nat} (hme : me < t) (he : S.e + 3 ≤ 1000000) (most : Nat) (hm : 27 + 3 * t + 12 * c ≤ most) (hm9 : most ≤ 900) : ∃ X', EpK X' t c (S.alloc t me).1 ∧ WOk X' ∧ ∀ (wv : Value) (v d : Int) (w : World), WldV w wv X →
    Calls Try.prog 22 #[wv, .int .i64 (me : Int), .agg #[.int .i64 6, .int .i64 0, .int .i64 v, .int .u64 d], .int .i64 (most : Int)] w fun e w' => ∃ v', e = .returned (.tuple #[v', .agg #[.int .i64 0, .bool false, .int .i64 (S.alloc t me).2, .int .u64 0, .slice none 0 0], .bool true]) ∧ WldV w' v' X' ∧ Ext w w' := by
  obtain ⟨X', ha, hk⟩ := ealloc_alone h he hme 0 most (by omega) most hm
  have hT := h.dim.T
  have ht2 := h.dim.t2
  have hw := (aloneN_ok (P := nextT (epochT t me 6 0 (most + 1))) (me := (me : Int)) (fun ns x h3 hx3 => epochN_ok _ _ _ _ _ (fun h5 => by unfold U64; omega) ns x h3 hx3) (most + 1) X [] hX (fun m hm => by cases hm)).1
  refine ⟨X', hk, ?_, fun wv v d w hV => ?_⟩
  · have ha2 := ha
    have e : (aloneN (nextT (epochT t me 6 0 (most + 1))) (me : Int) (most + 1) X []).1 = X' := by
      first
        | rw [ha2]
        | exact congrArg Prod.fst ha2
    rw [e] at hw; exact hw
  · have h1 := eal_any (most + 1) X t hT ht2 hX wv me 6 0 v d (most : Int) (by omega) (by omega) (by omega) most rfl (by omega) hm9 w hV
    have ha2 := ha
    rw [ha2] at h1
    exact h1
theorem eal_retire {X : WldK} {t c : Nat} {S : EpS} (h : EpK X t c S) (hX : WOk X) {me : Nat} (hme : me < t) {x : Nat} (h1 : 1 ≤ x) (h2 : x ≤ c) (hx : (x : Int) ∉ S.all) (most : Nat) (hm : 4 ≤ most) (hm9 : most ≤ 900) : ∃ X', EpK X' t c (S.retire (x : Int)) ∧ WOk X' ∧ ∀ (wv : Value) (v d : Int) (w : World), WldV w wv X →
    Calls Try.prog 22 #[wv, .int .i64 (me : Int), .agg #[.int .i64 5, .int .i64 (x : Int), .int .i64 v, .int .u64 d], .int .i64 (most : Int)] w fun e w' => ∃ v', e = .returned (.tuple #[v', .agg #[.int .i64 0, .bool false, .int .i64 0, .int .u64 0, .slice none 0 0], .bool true]) ∧ WldV w' v' X' ∧ Ext w w' := by
  obtain ⟨X', ha, hk⟩ := eretire_alone h (me := me) h1 h2 hx most most hm
  have hT := h.dim.T
  have ht2 := h.dim.t2
  have hw := (aloneN_ok (P := nextT (epochT t me 5 (x : Int) (most + 1))) (me := (me : Int)) (fun ns x h3 hx3 => epochN_ok _ _ _ _ _ (fun h5 => by have := h.dim.c2; unfold U64; omega) ns x h3 hx3) (most + 1) X [] hX (fun m hm => by cases hm)).1
  refine ⟨X', hk, ?_, fun wv v d w hV => ?_⟩
  · have ha2 := ha
    have e : (aloneN (nextT (epochT t me 5 (x : Int) (most + 1))) (me : Int) (most + 1) X []).1 = X' := by
      first
        | rw [ha2]
        | exact congrArg Prod.fst ha2
    rw [e] at hw; exact hw
  · have h1 := eal_any (most + 1) X t hT ht2 hX wv me 5 (x : Int) v d (most : Int) (by omega) (by omega) (fun _ => by have := h.dim.c2; omega) most rfl (by omega) hm9 w hV
    have ha2 := ha
    rw [ha2] at h1
    exact h1
end Go.Proofs.Ytjokaginolpbeaa

namespace Go.Proofs.Ytjokaginolpbeaa
open Go.RowKit

/-! wealdref13.In: is a number in a row? -/
set_option maxRecDepth 100000 in
theorem rin_any (l : List Int) (A : Option Addr) (n c : Nat) (x : Int) (w : World) (hl : l.length = n) (hn : n ≤ 1000000) (hA : Cells w A (intCells l)) :
    Calls Try.prog 23 #[.slice A n c, .int .i64 x] w fun e w' => e = .returned (.bool (decide (x ∈ l))) ∧ Ext w w' := by
  go_enter Try.func23, Try.ntmps23
  go_wp2
  go_loopw [5] (fun iv wr => ∃ j : Nat, iv = .int .i64 (j : Int) ∧ j ≤ n ∧ (∀ (k : Nat) (y : Int), k < j → l[k]? = some y → y ≠ x) ∧ Ext w wr) (fun iv _ => n - (intOf iv).toNat)
  case atStart => exact ⟨0, rfl, Nat.zero_le _, fun k y hk => by omega, Ext.refl _⟩
  case round =>
    obtain ⟨j, rfl, hj, hall, hx⟩ := hrel
    rcases Nat.lt_or_ge j n with hjn | hjn
    · obtain ⟨y, hy⟩ : ∃ y, l[j]? = some y := ⟨_, List.getElem?_eq_getElem (by omega)⟩
      obtain ⟨a, rfl, hc⟩ := hA (fun e => by
        have := intCells_length l
        rw [e] at this; simp at this; omega)
      have hcj := hx.cell (hc j _ (intCells_at hy))
      have hjI : (j : Int) < (n : Int) := by omega
      have hall2 : y ≠ x → ∀ (k : Nat) (y' : Int), k < j + 1 → l[k]? = some y' → y' ≠ x := fun hne k y' hk hy' => by
        rcases Nat.lt_or_ge k j with h | h
        · exact hall k y' h hy'
        · obtain rfl : k = j := by omega
          rw [hy] at hy'; injection hy' with hy'; subst hy'; exact hne
      have hmem : y = x → x ∈ l := fun e => by subst e; exact List.mem_of_getElem? hy
      clear hall hy hA hc
      by_cases hyx : y = x
      · have hd : decide (x ∈ l) = true := decide_eq_true (hmem hyx)
        clear hmem hall2
        have HD := Lib.hid hd
        clear hd
        subst hyx
        go_wp2
        go_ret
        exact ⟨by rw [HD.out]; rfl, hx⟩
      · have hall3 := hall2 hyx
        clear hmem hall2
        go_wp2
        go_roundw
        case rel => exact ⟨j + 1, by go_num, by omega, hall3, hx⟩
        case measure => simp [intOf]; omega
    · obtain rfl : j = n := by omega
      have hd : decide (x ∈ l) = false := decide_eq_false fun hm => by
        obtain ⟨k, hk⟩ := List.getElem?_of_mem hm
        have hkl := (List.getElem?_eq_some_iff.1 hk).1
        exact hall k x (by omega) hk rfl
      have HD := Lib.hid hd
      clear hd hall hA
      have hjI : ¬ (j : Int) < (j : Int) := by omega
      go_wp2
      go_ret
      exact ⟨by rw [HD.out]; rfl, hx⟩
end Go.Proofs.Ytjokaginolpbeaa

namespace Go.Proofs.Ytjokaginolpbeaa
open Go.RowKit

/-! A row of ints that is copied into one of the region's own: append(append([]int{}, l[:k]...), l[k+1:]...) in a region that draws. -/
theorem IntOwn.base_le {w : World} {b b' : Nat} {v : Value} {n : Nat} {l : List Int} (h : IntOwn w b v n l) (hb : b' ≤ b) : IntOwn w b' v n l := by
  refine ⟨h.1, ?_⟩
  rcases h.2 with h2 | ⟨g, cap, full, e, hg, h3⟩
  · exact .inl h2
  · exact .inr ⟨g, cap, full, e, Nat.le_trans hb hg, h3⟩
def IntSome (w : World) (base : Nat) (v : Value) (n : Nat) (l : List Int) : Prop := IntOwn w base v n l ∧ v.ownBlock ≠ none
theorem IntSome.ext {w w' : World} {base : Nat} {v : Value} {n : Nat} {l : List Int} (h : IntSome w base v n l) (hx : Ext w w') : IntSome w' base v n l := ⟨h.1.ext hx, h.2⟩
theorem int0_some (w : World) (base : Nat) (hb : base ≤ w.heap.size) : IntSome (w.alloc (.cells #[] 3)) base (.slice (some ⟨w.heap.size, 0, none⟩) 0 0) 0 [] :=
  ⟨⟨rfl, .inr ⟨w.heap.size, 0, [], rfl, hb, heap_alloc_new w _, Nat.le_refl _, Nat.zero_le _, rfl, rfl⟩⟩, by simp [Value.ownBlock]⟩
theorem grownI_wild {w w' : World} {base : Nat} {v : Value} {n : Nat} {l : List Int} (h : IntOwn w base v n l) (hg : w.grownBy w' v.ownBlock) (hb : base ≤ w.heap.size) : Below base w w' ∧ WildR 3 w w' := by
  refine ⟨⟨hg.os, hg.tape, hg.output, hg.size, fun k hk => ?_⟩, hg.size, fun g c T fr hc hT => ?_⟩
  · exact hg.block k (by omega) (fun e => h.low hk e.symm)
  · exact grownI_heap h hg (h.ne_box hc hT) hc
theorem run_append_some {P : Program} {w : World} (base : Nat) (t ty : TypeId) (i : TypeInfo) (ht : P.underlying t = some (.slice 3)) (hi : P.info? 3 = some i) (hz : i.zero = some (.int .i64 0)) (hsize : i.size = 1) (hby : i.bytes = 8)
    (v : Value) (n : Nat) (l : List Int) (hown : IntSome w base v n l) (a : Addr) (m c : Nat) (l2 : List Int) (hm : l2.length = m) (hnews : ∀ j u, (intCells l2)[j]? = some u → w.cell? (a.add j) = some u) (hn : n + m ≤ 1000000) (hbase : base ≤ w.heap.size) :
    ∃ v' w', (Builtin.append_ #[t, t] ty #[v, .slice (some a) m c]).run P w = .ok v' w' ∧ IntSome w' base v' (n + m) (l ++ l2) ∧ Below base w w' ∧ WildR 3 w w' := by
  obtain ⟨v', w', hr, h1, h2, h3⟩ := run_append_int (P := P) base t ty i ht hi hz hsize hby v n l hown.1 a m c l2 hm (fun e => absurd (by rw [e]; rfl) hown.2) hnews hn hbase
  refine ⟨v', w', hr, ⟨h1, ?_⟩, grownI_wild hown.1 h2 hbase⟩
  rcases h3 with h3 | h3
  · rw [h3]; exact hown.2
  · rw [h3]; simp
theorem IntOwn.cut {w : World} {base : Nat} {v : Value} {n : Nat} {l : List Int} (h : IntOwn w base v n l) {k : Nat} {x : Int} (hk : l[k]? = some x) : ∃ g c, v = .slice (some ⟨g, 0, none⟩) n c ∧ base ≤ g ∧ n ≤ c ∧ c ≤ maxLen ∧ w.cell? ⟨g, k, none⟩ = some (.int .i64 x) ∧
    ∀ w', Ext w w' → (∀ (j : Nat) (u : Value), (intCells (l.take k))[j]? = some u → w'.cell? ((⟨g, 0, none⟩ : Addr).add j) = some u) ∧ (∀ (j : Nat) (u : Value), (intCells (l.drop (k + 1)))[j]? = some u → w'.cell? ((⟨g, k + 1, none⟩ : Addr).add j) = some u) := by
  obtain ⟨g, c, e, hb, h1, h2, h3⟩ := h.at hk
  refine ⟨g, c, e, hb, h1, h2, h3, fun w' hx => ?_⟩
  obtain ⟨B, c', e', hC, -⟩ := h.form
  rw [e] at e'
  cases e'
  obtain ⟨a, ha, hc⟩ := hC (fun e2 => by
    have := (List.getElem?_eq_some_iff.1 hk).1
    have h4 := intCells_length l
    rw [e2] at h4; simp at h4; omega)
  cases ha
  refine ⟨fun j u hj => ?_, fun j u hj => ?_⟩
  · rw [← intCells_take, List.getElem?_take] at hj
    split at hj
    · exact hx.cell (hc j u hj)
    · cases hj
  · rw [← intCells_drop, List.getElem?_drop] at hj
    have := hx.cell (hc (k + 1 + j) u hj)
    rw [show ((⟨g, k + 1, none⟩ : Addr).add j) = ((⟨g, 0, none⟩ : Addr).add (k + 1 + j)) by simp [Addr.add]]
    exact this
theorem list_cut {l : List Int} {k : Nat} {x : Int} (h : l[k]? = some x) : l = l.take k ++ x :: l.drop (k + 1) := by
  have hk := (List.getElem?_eq_some_iff.1 h).1
  have hx : l[k] = x := (List.getElem?_eq_some_iff.1 h).2
  rw [← hx, List.getElem_cons_drop, List.take_append_drop]
theorem cut_len {l : List Int} {k : Nat} (h : k < l.length) : (l.take k).length = k ∧ (l.drop (k + 1)).length = l.length - (k + 1) ∧ (l.take k ++ l.drop (k + 1)).length = l.length - 1 := by
  simp; omega
theorem cut_addr {wr : World} {g k n c kr : Nat} {l : List Int} (h : ∀ w', Ext wr w' → (∀ (j : Nat) (u : Value), (intCells (l.take k))[j]? = some u → w'.cell? ((⟨g, 0, none⟩ : Addr).add j) = some u) ∧ (∀ (j : Nat) (u : Value), (intCells (l.drop (k + 1)))[j]? = some u → w'.cell? ((⟨g, k + 1, none⟩ : Addr).add j) = some u))
    (hl : (l.drop (k + 1)).length = kr) (hr : kr = n - (k + 1)) (hn : n ≤ c) : ∃ ka, ((c = k + 1 ∧ ka = 0) ∨ (¬ c = k + 1 ∧ ka = k + 1)) ∧ ∀ w', Ext wr w' → (∀ (j : Nat) (u : Value), (intCells (l.take k))[j]? = some u → w'.cell? ((⟨g, 0, none⟩ : Addr).add j) = some u) ∧ (∀ (j : Nat) (u : Value), (intCells (l.drop (k + 1)))[j]? = some u → w'.cell? ((⟨g, ka, none⟩ : Addr).add j) = some u) := by
  by_cases hc : c = k + 1
  · refine ⟨0, .inl ⟨hc, rfl⟩, fun w' hx => ⟨(h w' hx).1, fun j u hj => ?_⟩⟩
    have e : l.drop (k + 1) = [] := List.eq_nil_of_length_eq_zero (by omega)
    rw [e] at hj; simp [intCells] at hj
  · exact ⟨k + 1, .inr ⟨hc, rfl⟩, h⟩
end Go.Proofs.Ytjokaginolpbeaa

namespace Go.Proofs.Ytjokaginolpbeaa
open Go.RowKit

/-! A region that draws its order, in which several operations that turn nothing may come behind stores of the tail: they are taken first. -/
section
variable {P : Program} {ops : Array Oper} {Q : Exit → Act → World → Prop}
def bitsOf : List Nat → Nat
  | [] => 0
  | L :: r => 2 ^ L ||| bitsOf r
theorem bitsOf_spec : ∀ {l : List Nat} {i : Nat}, (bitsOf l).testBit i = true → i ∈ l
  | [], i, h => by simp [bitsOf] at h
  | L :: r, i, h => by
    simp only [bitsOf, Nat.testBit_or, Bool.or_eq_true] at h
    rcases h with h | h
    · rw [Nat.testBit_two_pow] at h
      rw [of_decide_eq_true h]; simp
    · exact List.mem_cons_of_mem _ (bitsOf_spec h)
def tailMB (M : List Nat) (n : Nat) (LL : List Nat) : Nat → List Row → Bool
  | _, [] => true
  | k, _ :: rs => (decide (k < n) || (M.getD k 0 ||| bitsOf LL) &&& (2 ^ k - 1) == 2 ^ k - 1) && tailMB M n LL (k + 1) rs
/-- of the tail alone: each waits for all of the tail ahead of it -/
def tailTB (M : List Nat) (n : Nat) : Nat → List Row → Bool
  | _, [] => true
  | k, _ :: rs => (decide (k < n) || ((List.range k).all fun i => decide (i < n) || waits M k i)) && tailTB M n (k + 1) rs
def sureMB (S : List Row) (M : List Nat) (n m : Nat) (LL : List Nat) : Bool :=
  decide (n ≤ S.length) && (LL.all fun L => decide (L < n)) && sureB S M S.length m && tailMB M n LL 0 S && tailTB M n 0 S
theorem tailM_spec {M : List Nat} {n : Nat} {LL : List Nat} : ∀ (S : List Row) (k0 : Nat), tailMB M n LL k0 S = true → ∀ k, k < S.length → n ≤ k0 + k → ∀ i, i < k0 + k → waits M (k0 + k) i = true ∨ i ∈ LL
  | [], _, _, k, h => by simp at h
  | x :: S, k0, hB, k, h => by
    simp only [tailMB, Bool.and_eq_true, Bool.or_eq_true, decide_eq_true_eq, beq_iff_eq] at hB
    cases k with
    | zero =>
      intro hn i hi
      rcases hB.1 with h1 | h1
      · omega
      · have h2 := congrArg (fun q => Nat.testBit q i) h1
        simp only [Nat.testBit_and, Nat.testBit_or, Nat.testBit_two_pow_sub_one] at h2
        rw [Nat.add_zero] at hi ⊢
        simp only [hi, decide_true, Bool.and_true, Bool.or_eq_true] at h2
        rcases h2 with h2 | h2
        · exact .inl h2
        · exact .inr (bitsOf_spec h2)
    | succ k =>
      intro hn i hi
      have := tailM_spec S (k0 + 1) hB.2 k (by simpa using h) (by omega) i (by omega)
      rw [show k0 + (k + 1) = k0 + 1 + k by omega]
      exact this
theorem tailT_spec {M : List Nat} {n : Nat} : ∀ (S : List Row) (k0 : Nat), tailTB M n k0 S = true → ∀ k, k < S.length → n ≤ k0 + k → ∀ i, n ≤ i → i < k0 + k → waits M (k0 + k) i = true
  | [], _, _, k, h => by simp at h
  | x :: S, k0, hB, k, h => by
    simp only [tailTB, Bool.and_eq_true, Bool.or_eq_true, decide_eq_true_eq, List.all_eq_true, List.mem_range] at hB
    cases k with
    | zero =>
      intro hn i hi hik
      rcases hB.1 with h1 | h1
      · omega
      · rcases h1 i (by omega) with h2 | h2
        · omega
        · simpa using h2
    | succ k =>
      intro hn i hi hik
      have := tailT_spec S (k0 + 1) hB.2 k (by simpa using h) (by omega) i hi (by omega)
      rw [show k0 + (k + 1) = k0 + 1 + k by omega]
      exact this
theorem wpAny_lates {C : Cfg} {Gs : List Good} {a0 : Act} {w0 : World} {n m : Nat} {LL : List Nat} (S : SureB ops C.M ops.size m) (hnN : n ≤ ops.size) (hLn : ∀ L ∈ LL, L < n) (hW : C.W = []) (hfree : ∀ L ∈ LL, lateFree ops C.M L = true) (hsel : Region.noSelect ops = true)
    (htail : ∀ k i, n ≤ k → k < ops.size → i < k → waits C.M k i = true ∨ i ∈ LL)
    (hS : ops.toList.map rowOf = C.S) (hm : a0.tmps.size = m) (hst : ∀ j v w w', good Gs j v w → Ext w w' → good Gs j v w')
    (hfr : ∀ j, C.F.getD j true = true → ∀ v w w', good Gs j v w → WildR C.E w w' → good Gs j v w')
    (hone : ∀ k o, k < n → ops[k]? = some o → sureOne P C (fun j => Gs.getD j Good.any) a0 w0 k o (Gs.getD k Good.any))
    (hQ : ∀ d v c a w, Q (.panic c) (a.put d v) w → Q (.panic c) a w)
    (hlate : ∀ L ∈ LL, ∀ oL, ops[L]? = some oL → ∀ listed a w, SureInv C ops Gs a0 w0 ops.size listed a w → (∀ j, waits C.M L j = true → listed.getD j false = true) → ∃ v, (∀ w', (execOp a.eval oL).run P w' = .ok (.value v) w') ∧ good Gs L v w)
    (hend : ∀ listed a w, SureInv C ops Gs a0 w0 ops.size listed a w → (∀ t, n ≤ t → listed.getD t false = false) → (∀ i, i < n → listed.getD i false = true) → wpAny P .any ops Q (ops.size - n) listed a w) :
    ∀ (c : Nat) (listed : Array Bool) (a : Act) (w : World), SureInv C ops Gs a0 w0 ops.size listed a w → (∀ t, n ≤ t → listed.getD t false = false) → (List.range n).countP (fun i => !listed.getD i false) = c → wpAny P .any ops Q (c + (ops.size - n)) listed a w
  | 0, listed, a, w, I, hT, hc => by
    rw [Nat.zero_add]
    refine hend listed a w I hT fun i hi => ?_
    have := List.countP_eq_zero.1 hc i (List.mem_range.2 hi)
    simpa using this
  | c + 1, listed, a, w, I, hT, hc => by
    rw [show c + 1 + (ops.size - n) = (c + (ops.size - n)) + 1 by omega]
    have cnt : ∀ k, k < n → listed.getD k false = false → (List.range n).countP (fun i => !(listed.setIfInBounds k true).getD i false) = c := fun k hkn hkun => by
      have hkl : k < listed.size := by rw [I.size]; omega
      have h2 := countP_less (p := fun i => !listed.getD i false) (q := fun i => !(listed.setIfInBounds k true).getD i false) (k := k)
        (by simp only [hkun, Bool.not_false]) (by simp [hkl]) (fun j hj => by simp only [getD_set_ne false (Ne.symm hj)]) n hkn
      omega
    have hT' : ∀ k, k < n → ∀ t, n ≤ t → (listed.setIfInBounds k true).getD t false = false := fun k hk t ht => by rw [getD_set_ne false (by omega)]; exact hT t ht
    by_cases hex : ∃ L, L ∈ LL ∧ L ∈ Region.ready .any ops listed
    · obtain ⟨L, hLL, hLr⟩ := hex
      obtain ⟨hun, o', ho', hall⟩ := mem_ready.1 hLr
      have hLn1 := hLn L hLL
      have dep : ∀ j, waits C.M L j = true → listed.getD j false = true := fun j hw => waits_listed S I.closed L o' ho' hall j hw
      obtain ⟨v, hy, hg⟩ := hlate L hLL o' ho' listed a w I dep
      have hfree1 := hfree L hLL
      simp only [lateFree, ho', Bool.and_eq_true, List.all_eq_true, List.mem_range, Bool.or_eq_true, beq_iff_eq] at hfree1
      have hgd : o'.guard = none := by have := hfree1.1; simpa using this
      refine wpAny_first ho' (Region.noSelect_spec hsel) (hQ o'.dst v) _ listed a w (fun j oj hj hne hunj hno => ?_) hLr (.inl ⟨by simp [Region.wanted, hgd], hy⟩)
        (wpAny_lates S hnN hLn hW hfree hsel htail hS hm hst hfr hone hQ hlate hend c _ _ w (sure_put S hm hW I ho' hLr (by omega) hg) (hT' L hLn1) (cnt L hLn1 (getD_alike hun)))
      have hjs : j < ops.size := (Array.getElem?_eq_some_iff.1 hj).1
      rcases hfree1.2 j hjs with (h1 | h1) | h1
      · exact absurd h1 hne
      · have := getD_alike hunj
        have h2 := dep j h1
        rw [this] at h2; cases h2
      · rw [hj] at h1
        simp only [Bool.or_eq_true] at h1
        rcases h1 with h1 | h1
        · obtain ⟨e, he, hb⟩ := Array.any_eq_true'.1 h1
          simp only [Bool.and_eq_true, beq_iff_eq] at hb
          exact absurd hb.2 (hno e he hb.1)
        · exact h1
    · -- the least one that is still to come
      have hex2 : ∃ i, i < n ∧ listed.getD i false = false ∧ ∀ j, j < i → listed.getD j false = true := by
        have hpos : 0 < (List.range n).countP (fun i => !listed.getD i false) := by omega
        obtain ⟨i, hi, hn⟩ := List.countP_pos_iff.1 hpos
        have key : ∀ i, i < n → listed.getD i false = false → ∃ i, i < n ∧ listed.getD i false = false ∧ ∀ j, j < i → listed.getD j false = true := by
          intro i
          induction i using Nat.strongRecOn with
          | _ i ih =>
            intro h1 h2
            by_cases hall : ∀ j, j < i → listed.getD j false = true
            · exact ⟨i, h1, h2, hall⟩
            · have hne : ∃ j, j < i ∧ listed.getD j false = false := by
                rcases Classical.em (∃ j, j < i ∧ listed.getD j false = false) with h | h
                · exact h
                · exact absurd (fun j hj => by
                    cases hq : listed.getD j false with
                    | true => rfl
                    | false => exact absurd ⟨j, hj, hq⟩ h) hall
              obtain ⟨j, hj, hjf⟩ := hne
              exact ih j hj (by omega) hjf
        exact key i (List.mem_range.1 hi) (by simpa using hn)
      obtain ⟨i, hin, hif, hall⟩ := hex2
      have his : i < ops.size := Nat.lt_of_lt_of_le hin hnN
      have hir : i ∈ Region.ready .any ops listed := by
        refine mem_ready.2 ⟨?_, ops[i], Array.getElem?_eq_getElem his, fun e he hb => hall e.on (S.edge i ops[i] (Array.getElem?_eq_getElem his) e he hb)⟩
        have hil : i < listed.size := by rw [I.size]; exact his
        simp [hil] at hif ⊢; exact hif
      refine ⟨fun h => (by rw [h] at hir; cases hir), fun k hk => ?_⟩
      obtain ⟨hkun, o, ho, hkall⟩ := mem_ready.1 hk
      have hks : k < ops.size := (Array.getElem?_eq_some_iff.1 ho).1
      have hkn : k < n := by
        rcases Nat.lt_or_ge k n with h | h
        · exact h
        · rcases htail k i h hks (by omega) with h2 | h2
          · have h3 := waits_listed S I.closed k o ho hkall i h2
            rw [hif] at h3; cases h3
          · exact absurd ⟨i, h2, hir⟩ hex
      exact wpOp_mono (fun a' w' I' => wpAny_lates S hnN hLn hW hfree hsel htail hS hm hst hfr hone hQ hlate hend c _ a' w' I' (hT' k hkn) (cnt k hkn (getD_alike hkun))) (sure_step S hS hm hst hfr I ho hk (by omega) (hone k o hkn ho))
/-- each of them, wherever it comes -/
def latesOK (P : Program) (l : List Oper) (V : Nat → Good) (w0 : World) : List (Nat × List (Nat × Tmp)) → Prop
  | [] => True
  | q :: r => (∀ w', Ext w0 w' → ∀ ρ, Env ρ → seen V ρ w' q.2 → ∀ o, l[q.1]? = some o → ∃ v, (∀ w'', (execOp ρ o).run P w'' = .ok (.value v) w'') ∧ (V q.1).G v w') ∧ latesOK P l V w0 r
theorem latesOK_at {P : Program} {l : List Oper} {V : Nat → Good} {w0 : World} : ∀ {LJ : List (Nat × List (Nat × Tmp))}, latesOK P l V w0 LJ → ∀ q ∈ LJ, ∀ w', Ext w0 w' → ∀ ρ, Env ρ → seen V ρ w' q.2 → ∀ o, l[q.1]? = some o → ∃ v, (∀ w'', (execOp ρ o).run P w'' = .ok (.value v) w'') ∧ (V q.1).G v w'
  | [], _, q, hq => by cases hq
  | x :: r, h, q, hq => by
    rcases List.mem_cons.1 hq with rfl | hq
    · exact h.1
    · exact latesOK_at h.2 q hq
/-- A REGION THAT DRAWS ITS ORDER, with operations that turn nothing and may come behind stores of the tail -/
theorem wp_region_lates {id : Nat} {a0 : Act} {w : World} {l : List Oper} (LJ : List (Nat × List (Nat × Tmp))) (C : Cfg) (n m : Nat) (js es : List (Nat × Tmp)) (Gs : List Good) (hmix : P.follows .mixedOrders = true)
    (hS : l.map rowOf = C.S) (hB : sureMB C.S C.M n m (LJ.map (·.1)) = true) (hm : a0.tmps.size = m) (hjs : endPairs C.S n = js) (hes : (js.filter fun p => aliveB C p.1) = es) (hF : Gs.map (fun g => g.free C.E) = C.F)
    (hfree : (LJ.all fun q => lateFree l.toArray C.M q.1) = true) (hlook : (LJ.all fun q => q.2.all fun p => waits C.M q.1 p.1 && dstS C.S p.1 == some p.2) = true) (hsel : Region.noSelect l.toArray = true) (hW : C.W = [])
    (hQ : ∀ (d : Tmp) (v : Value) c a w, Q (.panic c) (a.put (some d) v) w → Q (.panic c) a w)
    (hlate : ∀ (V : Nat → Good), places V 0 Gs → latesOK P l V w.drew LJ)
    (h : ∀ (C' : Cfg) (a' : Act) (V : Nat → Good), C' = C → a' = a0 → places V 0 Gs → sureAll P C' V a' w.drew 0 (l.take n))
    (hend : ∀ (xs : Nat → Value) (w' : World), Ext w.drew w' → goods Gs xs w' es → wpList P l.toArray Q (l.drop n) (putAll js xs a0) w') :
    (Code.region id l.toArray true).wp P Q a0 w := by
  have hS' : l.toArray.toList.map rowOf = C.S := by simpa using hS
  simp only [sureMB, Bool.and_eq_true, decide_eq_true_eq] at hB
  obtain ⟨⟨⟨⟨hn1, hLn⟩, hB1⟩, hB2⟩, hB3⟩ := hB
  have hlS : C.S.length = l.toArray.size := by rw [← hS']; simp
  have B := sureB_spec hS' hB1
  rw [hlS] at B
  have hnN : n ≤ l.toArray.size := by omega
  have htail : ∀ k i, n ≤ k → k < l.toArray.size → i < k → waits C.M k i = true ∨ i ∈ LJ.map (·.1) := fun k i h1 h2 h3 => by
    have := tailM_spec C.S 0 hB2 k (by omega) (by omega) i (by omega)
    simpa using this
  have hP0 := places_of Gs Gs 0 (fun j _ => by rw [Nat.zero_add])
  have hone := sureAll_at (l.take n) 0 (h C a0 (fun j => Gs.getD j Good.any) rfl rfl hP0)
  have hst : ∀ j v w w', good Gs j v w → Ext w w' → good Gs j v w' := fun j v w w' h hx => (Gs.getD j Good.any).st v w w' h hx
  have hone' : ∀ k o, k < n → l.toArray[k]? = some o → sureOne P C (fun j => Gs.getD j Good.any) a0 w.drew k o (Gs.getD k Good.any) := fun k o hk ho => by
    have := hone k o (by rw [List.getElem?_take]; simp [hk]; simpa using ho)
    simpa using this
  have hfr : ∀ j, C.F.getD j true = true → ∀ v w w', good Gs j v w → WildR C.E w w' → good Gs j v w' := fun j hj v w w' hg hx => by
    refine (Gs.getD j Good.any).fr C.E ?_ v w w' hg hx
    rw [← hF] at hj
    rcases Nat.lt_or_ge j Gs.length with h' | h'
    · simp [h'] at hj ⊢; exact hj
    · rw [List.getD_eq_getElem?_getD, List.getElem?_eq_none h']; rfl
  refine wp_region_any hmix ?_
  have I0 : SureInv C l.toArray Gs a0 w.drew l.toArray.size (Array.replicate l.toArray.size false) a0 { w with drawn := w.drawn + 1 } := by
    have hf : ∀ j, (Array.replicate l.toArray.size false).getD j false = false := rep_false _
    refine ⟨by simp, fun j oj _ h => (by rw [hf] at h; cases h), fun t _ => hf t, Ext.refl _, rfl, rfl, fun t _ => rfl, fun j h _ => (by rw [hf] at h; cases h)⟩
  have hno : ∀ (listed : Array Bool) (j : Nat), ∀ c, c ∈ C.W → listed.getD c false = true → alive C j c = true := fun _ _ c hc => by rw [hW] at hc; cases hc
  have h := wpAny_lates (Q := Q) B hnN (fun L hL => by simpa using List.all_eq_true.1 hLn L hL) hW (fun L hL => by
      obtain ⟨q, hq, rfl⟩ := List.mem_map.1 hL
      exact List.all_eq_true.1 hfree q hq) hsel htail hS' hm hst hfr hone' (fun d v c a w => by cases d with | none => exact fun h => h | some d => exact hQ d v c a w) (fun L hL oL hoL listed a w' I hdep => by
      obtain ⟨q, hq, rfl⟩ := List.mem_map.1 hL
      refine latesOK_at (hlate (fun j => Gs.getD j Good.any) hP0) q hq w' I.ext a.eval (act_env a) (seen_of fun p hp => ?_) oL (by simpa using hoL)
      have h2 := List.all_eq_true.1 (List.all_eq_true.1 hlook q hq) p hp
      simp only [Bool.and_eq_true, beq_iff_eq] at h2
      obtain ⟨v, hv, hg⟩ := I.good p.1 (hdep p.1 h2.1) (hno _ _)
      rw [act_eval (hv _ (by rw [← dst_eq hS']; exact h2.2))]
      exact hg) (fun listed a w' I hT hall => by
    have hpairs : ∀ p ∈ endPairs C.S n, p.1 < n ∧ dstOf l.toArray p.1 = some p.2 := fun p hp => by
      obtain ⟨j, hj, e⟩ := List.mem_filterMap.1 hp
      obtain ⟨d, hd, rfl⟩ := Option.map_eq_some_iff.1 e
      rw [dst_eq hS'] at hd
      exact ⟨List.mem_range.1 hj, hd⟩
    let xs : Nat → Value := fun j => match dstOf l.toArray j with | some d => a.tmps.getD d undef | none => undef
    have hxv : ∀ j d, dstOf l.toArray j = some d → a.tmps[d]? = some (xs j) := fun j d hj => by
      have hd : d < a.tmps.size := by rw [I.tsize, hm]; exact B.inside j d hj
      simp only [xs, hj, Array.getD_eq_getD_getElem?, Array.getElem?_eq_getElem hd, Option.getD_some]
    have hxs : ∀ j d, dstOf l.toArray j = some d → listed.getD j false = true → aliveB C j = true → good Gs j (xs j) w' := fun j d hj hl ha => by
      obtain ⟨v, hv, hg⟩ := I.good j hl (fun c hc _ => List.all_eq_true.1 ha c hc)
      have h2 := hv d hj
      have h3 : xs j = v := Option.some.inj ((hxv j d hj).symm.trans h2)
      rw [h3]
      exact hg
    have hgoods : goods Gs xs w' es := goods_mem fun p hp => by
      rw [← hes, ← hjs] at hp
      obtain ⟨hp, hal⟩ := List.mem_filter.1 hp
      obtain ⟨h1, h2⟩ := hpairs p hp
      exact hxs p.1 p.2 h2 (hall _ h1) hal
    have ha : a = putAll js xs a0 := by
      have ht : a.tmps = (putAll js xs a0).tmps := by
        refine Array.ext_getElem? fun t => ?_
        rw [← hjs]
        by_cases hex : ∃ j, j < n ∧ dstOf l.toArray j = some t
        · obtain ⟨j, hj, hd⟩ := hex
          rw [putAll_in (endPairs C.S n) xs a0 j t (List.mem_filterMap.2 ⟨j, List.mem_range.2 hj, by rw [dst_eq hS', hd]; rfl⟩) (fun p hp hpd => by
            obtain ⟨_, h2⟩ := hpairs p hp
            rw [hpd] at h2
            rcases Nat.decEq p.1 j with h | h
            · exact absurd hd (B.apart p.1 j t h h2)
            · exact h) (by rw [hm]; exact B.inside j t hd)]
          exact hxv j t hd
        · rw [putAll_out _ xs a0 t (fun p hp hpd => by
            obtain ⟨h1, h2⟩ := hpairs p hp
            exact hex ⟨p.1, h1, by rw [← hpd]; exact h2⟩)]
          refine I.frame t fun j hl hj => hex ⟨j, ?_, hj⟩
          rcases Nat.lt_or_ge j n with h | h
          · exact h
          · rw [hT j h] at hl; cases hl
      have hd : a.defers = (putAll js xs a0).defers := by rw [putAll_defers]; exact I.defers
      cases a
      cases hq : putAll js xs a0
      rw [hq] at ht hd
      simp only at ht hd
      rw [ht, hd]
    have hlen : l.toArray.size - n = (l.drop n).length := by simp
    rw [hlen, ha]
    exact wpAny_seqL B (n := n) (fun k i h1 h2 h3 => by
      have := tailT_spec C.S 0 hB3 k (by omega) (by omega) i h1 (by omega)
      simpa using this) (l.drop n) n _ _ _ (Nat.le_refl _) (by simp at hnN ⊢; omega) (fun j => by simp) I.size hall hT (hend xs w' I.ext hgoods)) n (Array.replicate l.toArray.size false) a0 _ I0 (fun t _ => rep_false _ t) (by
      have : (fun i => !(Array.replicate l.toArray.size false).getD i false) = fun _ : Nat => true := by
        funext i
        rw [rep_false]; rfl
      rw [this]
      simp)
  have hsz : n + (l.toArray.size - n) = l.toArray.size := by omega
  rw [hsz] at h
  exact h
end
end Go.Proofs.Ytjokaginolpbeaa
