import Derived.Test.YtjokaginolpbeaaEpochNextPartG
import Derived.Test.YtjokaginolpbeaaEpochNextPartF
import Derived.Test.YtjokaginolpbeaaEpochNextPartE
import Derived.Test.YtjokaginolpbeaaEpochNextPartA
import Derived.Test.YtjokaginolpbeaaEpochNextPartD
import Derived.WalkKit
namespace Go.Proofs.Ytjokaginolpbeaa
open Go.RowKit

/-! wealdref13.Next. -/
theorem cq_fin {α : Type} (T : PT α) (o : α → OutN) (rs : List Res) (a : α) (s : Cu) (h : Cq (.ret a) rs (T.run (stM Res.n) (rs.drop 0)) ⟨0, false, Acc.zero⟩ s) :
    (nextT (T.bind fun a => .ret (o a)) (rs.map Res.n)).fin = .returned (.tuple #[.agg (if s.stop then s.x else Acc.zero).cells, .agg (if s.stop then ⟨0, false, 0, 0⟩ else o a).cells, .bool (!s.stop)]) := by
  rw [List.drop_zero] at h
  have hmap := run_stL_map (T := T.bind fun a => .ret (o a)) (rs := rs)
  rw [PT.run_bind] at hmap
  rcases h with ⟨h1, h2, h3, h4, h5⟩ | ⟨h1, ⟨h2, -⟩ | ⟨h2, x, h3, rfl⟩⟩
  · rw [← h5] at hmap
    simp only [PT.run] at hmap
    unfold nextT
    rw [hmap]
    simp only [h2, if_false, Bool.false_eq_true, Bool.not_false]
    rfl
  · cases h2
  · rw [h3] at hmap
    simp only at hmap
    unfold nextT
    rw [hmap]
    rfl
set_option maxRecDepth 100000 in
set_option maxHeartbeats 4000000 in
theorem rnx_pin (f : Nat) (t me u v d : Int) (ht1 : 0 ≤ t) (ht2 : t ≤ 64) (hm1 : 0 ≤ me) (hm2 : me ≤ 64)  (B : Option Addr) (n kc : Nat) (rs : List Res) (hf : rs.length < f) (w : World) (hlog : LogV w B n kc rs) (hU : GoodR rs) :
    Calls Try.prog 18 #[.int .i64 t, .int .i64 me, .agg #[.int .i64 3, .int .i64 u, .int .i64 v, .int .u64 d], .slice B n kc] w fun e w' => e = (nextT (epochT t me 3 u f) (rs.map Res.n)).fin ∧ Ext w w' := by
  obtain ⟨E, hE0⟩ : ∃ E, (nextT (epochT t me 3 u f) (rs.map Res.n)).fin = E := ⟨_, rfl⟩
  have HN := Lib.hid hE0
  clear hE0
  have HF := Lib.hid hf
  clear hf
  have hmk : ∀ W : World, (Instr.build 142 #[(0, .slice B n kc)]).run Try.prog W = .ok (.agg #[.slice B n kc, .int .i64 0, .bool false, .int .i64 0, .int .i64 0, .int .u64 0, .int .u64 0, .slice none 0 0, .slice none 0 0]) W := fun _ => by kernel_rfl
  have hmo : ∀ W : World, (Instr.build 37 #[]).run Try.prog W = .ok (.agg #[.int .i64 0, .bool false, .int .i64 0, .int .u64 0, .slice none 0 0]) W := fun _ => by kernel_rfl
  have hsep : ∀ a, B = some a → 0 < n → a.block ≠ w.heap.size + 1 + 1 + 1 := fun a ha hk => by subst ha; have := hlog.low hk; omega
  go_enter Try.func18, Try.ntmps18
  go_upto_region 3 with (fail)
  obtain ⟨hW, hP, hA, hQ, hC, hO⟩ := boxes5n w (.cells #[.int .i64 3, .int .i64 u, .int .i64 v, .int .u64 d] 24) (.cells #[.int .i64 0, .int .i64 0, .int .u64 0, .int .u64 0, .slice none 0 0, .slice none 0 0] 33) (.cells #[.int .i64 0, .bool false, .int .i64 0, .int .u64 0, .slice none 0 0] 37) (.cells #[.slice B n kc, .int .i64 0, .bool false, .int .i64 0, .int .i64 0, .int .u64 0, .int .u64 0, .slice none 0 0, .slice none 0 0] 142) (.cells #[.int .i64 0, .bool false, .int .i64 0, .int .u64 0, .slice none 0 0] 37)
  generalize ((((w.alloc (.cells #[.int .i64 3, .int .i64 u, .int .i64 v, .int .u64 d] 24)).alloc (.cells #[.int .i64 0, .int .i64 0, .int .u64 0, .int .u64 0, .slice none 0 0, .slice none 0 0] 33)).alloc (.cells #[.int .i64 0, .bool false, .int .i64 0, .int .u64 0, .slice none 0 0] 37)).alloc (.cells #[.slice B n kc, .int .i64 0, .bool false, .int .i64 0, .int .i64 0, .int .u64 0, .int .u64 0, .slice none 0 0, .slice none 0 0] 142)).alloc (.cells #[.int .i64 0, .bool false, .int .i64 0, .int .u64 0, .slice none 0 0] 37) = W at *
  have hC : CurAt W (w.heap.size + 1 + 1 + 1) B n kc ⟨0, false, Acc.zero⟩ := hC
  have hL := hlog.ext hW
  have p0 : W.cell? ⟨w.heap.size, 0, none⟩ = some (.int .i64 3) := by simp [World.cell?, hP]
  have p1 : W.cell? ⟨w.heap.size, 1, none⟩ = some (.int .i64 u) := by simp [World.cell?, hP]
  have p2 : W.cell? ⟨w.heap.size, 2, none⟩ = some (.int .i64 v) := by simp [World.cell?, hP]
  have p3 : W.cell? ⟨w.heap.size, 3, none⟩ = some (.int .u64 d) := by simp [World.cell?, hP]
  have hfed : (pinT me).run (stM Res.n) (rs.drop 0) ≠ .out := by
    intro h
    have h2 := (epochT_fed t me 3 u f rs.length HF.out).run (l := rs) Res.n
    rw [show epochT t me 3 u f = (pinT me).bind fun a => .ret ((fun _ => ⟨0, false, 0, 0⟩) a) from rfl, PT.run_bind] at h2
    rw [List.drop_zero] at h
    rw [h] at h2
    exact h2 rfl
  go_wp2_with fail
  refine (rpin2 me hm1 hm2 (w.heap.size + 1 + 1 + 1) B n kc ⟨0, false, Acc.zero⟩ rs _ hL hsep hC (Nat.zero_le _) hU).mono ?_
  rintro e w1 ⟨s1, a, rfl, hC1, hx, hc⟩
  have hO1 := hx.heap hO (by omega)
  have hA1 := hx.heap hA (by omega)
  have hQ1 := hx.heap hQ (by omega)
  have hW1 := hx.ext hW (by omega)
  clear hC hO hA hQ hW hL p0 p1 p2 p3 hP hx hfed hsep hlog
  have hfin := cq_fin (pinT me) ((fun _ => ⟨0, false, 0, 0⟩)) rs a s1 hc
  rw [show (pinT me).bind (fun a => .ret ((fun _ => ⟨0, false, 0, 0⟩) a)) = epochT t me 3 u f from rfl, HN.out] at hfin
  clear hc
  have hC := hC1
  have hO := hO1
  have hA := hA1
  have hQ := hQ1
  have hW := hW1
  clear hC1 hO1 hA1 hQ1 hW1
  have o0 : w1.cell? ⟨w.heap.size + 1 + 1 + 1 + 1, 0, none⟩ = some (.int .i64 0) := by simp [World.cell?, hO]
  have o1 : w1.cell? ⟨w.heap.size + 1 + 1 + 1 + 1, 1, none⟩ = some (.bool false) := by simp [World.cell?, hO]
  have o2 : w1.cell? ⟨w.heap.size + 1 + 1 + 1 + 1, 2, none⟩ = some (.int .i64 0) := by simp [World.cell?, hO]
  have o3 : w1.cell? ⟨w.heap.size + 1 + 1 + 1 + 1, 3, none⟩ = some (.int .u64 0) := by simp [World.cell?, hO]
  have o4 : w1.cell? ⟨w.heap.size + 1 + 1 + 1 + 1, 4, none⟩ = some (.slice none 0 0) := by simp [World.cell?, hO]
  go_wp2_with fail
  refine (told_any (w.heap.size + 1 + 1 + 1) B n kc s1 ⟨0, false, 0, 0⟩ _ hC).mono ?_
  rintro e w5 ⟨rfl, hx5⟩
  clear o0 o1 o2 o3 o4
  replace hA := heap_ext hA hx5
  replace hQ := heap_ext hQ hx5
  replace hW := hW.trans hx5
  clear hx5 hO hC
  generalize (if s1.stop = true then s1.x else Acc.zero) = XA at *
  generalize (if s1.stop = true then (⟨0, false, 0, 0⟩ : OutN) else ⟨0, false, 0, 0⟩) = OA at *
  generalize (!s1.stop) = b at *
  obtain ⟨x0, x1, x2, x3, x4, x5, x6, x7, x8, x9⟩ := XA
  obtain ⟨o0, o1, o2, o3⟩ := OA
  simp only [Acc.cells, OutN.cells] at hfin ⊢
  have HFI := Lib.hid hfin
  clear hfin
  have e0 : w5.cell? ⟨w.heap.size + 1, 0, none⟩ = some (.int .i64 0) := by simp [World.cell?, hA]
  have ef0 : w5.frozen? ⟨w.heap.size + 1, 0, none⟩ = false := by simp [World.frozen?, hA]
  have e1 : w5.cell? ⟨w.heap.size + 1, 1, none⟩ = some (.int .i64 0) := by simp [World.cell?, hA]
  have ef1 : w5.frozen? ⟨w.heap.size + 1, 1, none⟩ = false := by simp [World.frozen?, hA]
  have e2 : w5.cell? ⟨w.heap.size + 1, 2, none⟩ = some (.int .u64 0) := by simp [World.cell?, hA]
  have ef2 : w5.frozen? ⟨w.heap.size + 1, 2, none⟩ = false := by simp [World.frozen?, hA]
  have e3 : w5.cell? ⟨w.heap.size + 1, 3, none⟩ = some (.int .u64 0) := by simp [World.cell?, hA]
  have ef3 : w5.frozen? ⟨w.heap.size + 1, 3, none⟩ = false := by simp [World.frozen?, hA]
  have e4 : w5.cell? ⟨w.heap.size + 1, 4, none⟩ = some (.slice none 0 0) := by simp [World.cell?, hA]
  have ef4 : w5.frozen? ⟨w.heap.size + 1, 4, none⟩ = false := by simp [World.frozen?, hA]
  have e5 : w5.cell? ⟨w.heap.size + 1, 5, none⟩ = some (.slice none 0 0) := by simp [World.cell?, hA]
  have ef5 : w5.frozen? ⟨w.heap.size + 1, 5, none⟩ = false := by simp [World.frozen?, hA]
  have q0 : w5.cell? ⟨w.heap.size + 1 + 1, 0, none⟩ = some (.int .i64 0) := by simp [World.cell?, hQ]
  have qf0 : w5.frozen? ⟨w.heap.size + 1 + 1, 0, none⟩ = false := by simp [World.frozen?, hQ]
  have q1 : w5.cell? ⟨w.heap.size + 1 + 1, 1, none⟩ = some (.bool false) := by simp [World.cell?, hQ]
  have qf1 : w5.frozen? ⟨w.heap.size + 1 + 1, 1, none⟩ = false := by simp [World.frozen?, hQ]
  have q2 : w5.cell? ⟨w.heap.size + 1 + 1, 2, none⟩ = some (.int .i64 0) := by simp [World.cell?, hQ]
  have qf2 : w5.frozen? ⟨w.heap.size + 1 + 1, 2, none⟩ = false := by simp [World.frozen?, hQ]
  have q3 : w5.cell? ⟨w.heap.size + 1 + 1, 3, none⟩ = some (.int .u64 0) := by simp [World.cell?, hQ]
  have qf3 : w5.frozen? ⟨w.heap.size + 1 + 1, 3, none⟩ = false := by simp [World.frozen?, hQ]
  have q4 : w5.cell? ⟨w.heap.size + 1 + 1, 4, none⟩ = some (.slice none 0 0) := by simp [World.cell?, hQ]
  have qf4 : w5.frozen? ⟨w.heap.size + 1 + 1, 4, none⟩ = false := by simp [World.frozen?, hQ]
  have hPm : (setAll (w.heap.size + 1 + 1) 0 [.int .i64 o0, .bool o1, .int .i64 o2, .int .u64 o3, .slice none 0 0] (setAll (w.heap.size + 1) 0 [.int .i64 x0, .int .i64 x1, .int .u64 x2, .int .u64 x3, .slice x4 x5 x6, .slice x7 x8 x9] w5)).heap[w.heap.size + 1 + 1]? = some (.cells #[.int .i64 o0, .bool o1, .int .i64 o2, .int .u64 o3, .slice none 0 0] 37 (0, 0)) := setAll_all (vs := [.int .i64 o0, .bool o1, .int .i64 o2, .int .u64 o3, .slice none 0 0]) ((setAll_other (g := w.heap.size + 1) (by omega) [.int .i64 x0, .int .i64 x1, .int .u64 x2, .int .u64 x3, .slice x4 x5 x6, .slice x7 x8 x9] 0 w5).trans hQ) rfl
  have hEm : (setAll (w.heap.size + 1 + 1) 0 [.int .i64 o0, .bool o1, .int .i64 o2, .int .u64 o3, .slice none 0 0] (setAll (w.heap.size + 1) 0 [.int .i64 x0, .int .i64 x1, .int .u64 x2, .int .u64 x3, .slice x4 x5 x6, .slice x7 x8 x9] w5)).heap[w.heap.size + 1]? = some (.cells #[.int .i64 x0, .int .i64 x1, .int .u64 x2, .int .u64 x3, .slice x4 x5 x6, .slice x7 x8 x9] 33 (0, 0)) := (setAll_other (g := w.heap.size + 1 + 1) (by omega) [.int .i64 o0, .bool o1, .int .i64 o2, .int .u64 o3, .slice none 0 0] 0 (setAll (w.heap.size + 1) 0 [.int .i64 x0, .int .i64 x1, .int .u64 x2, .int .u64 x3, .slice x4 x5 x6, .slice x7 x8 x9] w5)).trans (setAll_all (vs := [.int .i64 x0, .int .i64 x1, .int .u64 x2, .int .u64 x3, .slice x4 x5 x6, .slice x7 x8 x9]) hA rfl)
  have hF : Ext w (setAll (w.heap.size + 1 + 1) 0 [.int .i64 o0, .bool o1, .int .i64 o2, .int .u64 o3, .slice none 0 0] (setAll (w.heap.size + 1) 0 [.int .i64 x0, .int .i64 x1, .int .u64 x2, .int .u64 x3, .slice x4 x5 x6, .slice x7 x8 x9] w5)) := setAll_ext (g := w.heap.size + 1 + 1) (setAll_ext (g := w.heap.size + 1) hW (by omega)) (by omega)
  simp only [setAll] at hPm hEm hF
  clear hA hQ hW
  go_wp2
  generalize (((((((((((w5.setCell ⟨w.heap.size + 1, 0, none⟩ (.int .i64 x0)).setCell ⟨w.heap.size + 1, 1, none⟩ (.int .i64 x1)).setCell ⟨w.heap.size + 1, 2, none⟩ (.int .u64 x2)).setCell ⟨w.heap.size + 1, 3, none⟩ (.int .u64 x3)).setCell ⟨w.heap.size + 1, 4, none⟩ (.slice x4 x5 x6)).setCell ⟨w.heap.size + 1, 5, none⟩ (.slice x7 x8 x9)).setCell ⟨w.heap.size + 1 + 1, 0, none⟩ (.int .i64 o0)).setCell ⟨w.heap.size + 1 + 1, 1, none⟩ (.bool o1)).setCell ⟨w.heap.size + 1 + 1, 2, none⟩ (.int .i64 o2)).setCell ⟨w.heap.size + 1 + 1, 3, none⟩ (.int .u64 o3)).setCell ⟨w.heap.size + 1 + 1, 4, none⟩ (.slice none 0 0)) = wf at *
  clear e0 e1 e2 e3 e4 e5 ef0 ef1 ef2 ef3 ef4 ef5 q0 q1 q2 q3 q4 qf0 qf1 qf2 qf3 qf4
  have e0 : wf.cell? ⟨w.heap.size + 1, 0, none⟩ = some (.int .i64 x0) := by simp [World.cell?, hEm]
  have e1 : wf.cell? ⟨w.heap.size + 1, 1, none⟩ = some (.int .i64 x1) := by simp [World.cell?, hEm]
  have e2 : wf.cell? ⟨w.heap.size + 1, 2, none⟩ = some (.int .u64 x2) := by simp [World.cell?, hEm]
  have e3 : wf.cell? ⟨w.heap.size + 1, 3, none⟩ = some (.int .u64 x3) := by simp [World.cell?, hEm]
  have e4 : wf.cell? ⟨w.heap.size + 1, 4, none⟩ = some (.slice x4 x5 x6) := by simp [World.cell?, hEm]
  have e5 : wf.cell? ⟨w.heap.size + 1, 5, none⟩ = some (.slice x7 x8 x9) := by simp [World.cell?, hEm]
  have q0 : wf.cell? ⟨w.heap.size + 1 + 1, 0, none⟩ = some (.int .i64 o0) := by simp [World.cell?, hPm]
  have q1 : wf.cell? ⟨w.heap.size + 1 + 1, 1, none⟩ = some (.bool o1) := by simp [World.cell?, hPm]
  have q2 : wf.cell? ⟨w.heap.size + 1 + 1, 2, none⟩ = some (.int .i64 o2) := by simp [World.cell?, hPm]
  have q3 : wf.cell? ⟨w.heap.size + 1 + 1, 3, none⟩ = some (.int .u64 o3) := by simp [World.cell?, hPm]
  have q4 : wf.cell? ⟨w.heap.size + 1 + 1, 4, none⟩ = some (.slice none 0 0) := by simp [World.cell?, hPm]
  refine bodyPost_ret (v := .tuple #[.agg #[.int .i64 x0, .int .i64 x1, .int .u64 x2, .int .u64 x3, .slice x4 x5 x6, .slice x7 x8 x9], .agg #[.int .i64 o0, .bool o1, .int .i64 o2, .int .u64 o3, .slice none 0 0], .bool b]) (by simp [results, Try.results18, go_sem, e0, e1, e2, e3, e4, e5, q0, q1, q2, q3, q4]) rfl ⟨by rw [HN.out, HFI.out], hF⟩
set_option maxRecDepth 100000 in
set_option maxHeartbeats 4000000 in
theorem rnx_unpin (f : Nat) (t me u v d : Int) (ht1 : 0 ≤ t) (ht2 : t ≤ 64) (hm1 : 0 ≤ me) (hm2 : me ≤ 64)  (B : Option Addr) (n kc : Nat) (rs : List Res) (hf : rs.length < f) (w : World) (hlog : LogV w B n kc rs) (hU : GoodR rs) :
    Calls Try.prog 18 #[.int .i64 t, .int .i64 me, .agg #[.int .i64 4, .int .i64 u, .int .i64 v, .int .u64 d], .slice B n kc] w fun e w' => e = (nextT (epochT t me 4 u f) (rs.map Res.n)).fin ∧ Ext w w' := by
  obtain ⟨E, hE0⟩ : ∃ E, (nextT (epochT t me 4 u f) (rs.map Res.n)).fin = E := ⟨_, rfl⟩
  have HN := Lib.hid hE0
  clear hE0
  have HF := Lib.hid hf
  clear hf
  have hmk : ∀ W : World, (Instr.build 142 #[(0, .slice B n kc)]).run Try.prog W = .ok (.agg #[.slice B n kc, .int .i64 0, .bool false, .int .i64 0, .int .i64 0, .int .u64 0, .int .u64 0, .slice none 0 0, .slice none 0 0]) W := fun _ => by kernel_rfl
  have hmo : ∀ W : World, (Instr.build 37 #[]).run Try.prog W = .ok (.agg #[.int .i64 0, .bool false, .int .i64 0, .int .u64 0, .slice none 0 0]) W := fun _ => by kernel_rfl
  have hsep : ∀ a, B = some a → 0 < n → a.block ≠ w.heap.size + 1 + 1 + 1 := fun a ha hk => by subst ha; have := hlog.low hk; omega
  go_enter Try.func18, Try.ntmps18
  go_upto_region 3 with (fail)
  obtain ⟨hW, hP, hA, hQ, hC, hO⟩ := boxes5n w (.cells #[.int .i64 4, .int .i64 u, .int .i64 v, .int .u64 d] 24) (.cells #[.int .i64 0, .int .i64 0, .int .u64 0, .int .u64 0, .slice none 0 0, .slice none 0 0] 33) (.cells #[.int .i64 0, .bool false, .int .i64 0, .int .u64 0, .slice none 0 0] 37) (.cells #[.slice B n kc, .int .i64 0, .bool false, .int .i64 0, .int .i64 0, .int .u64 0, .int .u64 0, .slice none 0 0, .slice none 0 0] 142) (.cells #[.int .i64 0, .bool false, .int .i64 0, .int .u64 0, .slice none 0 0] 37)
  generalize ((((w.alloc (.cells #[.int .i64 4, .int .i64 u, .int .i64 v, .int .u64 d] 24)).alloc (.cells #[.int .i64 0, .int .i64 0, .int .u64 0, .int .u64 0, .slice none 0 0, .slice none 0 0] 33)).alloc (.cells #[.int .i64 0, .bool false, .int .i64 0, .int .u64 0, .slice none 0 0] 37)).alloc (.cells #[.slice B n kc, .int .i64 0, .bool false, .int .i64 0, .int .i64 0, .int .u64 0, .int .u64 0, .slice none 0 0, .slice none 0 0] 142)).alloc (.cells #[.int .i64 0, .bool false, .int .i64 0, .int .u64 0, .slice none 0 0] 37) = W at *
  have hC : CurAt W (w.heap.size + 1 + 1 + 1) B n kc ⟨0, false, Acc.zero⟩ := hC
  have hL := hlog.ext hW
  have p0 : W.cell? ⟨w.heap.size, 0, none⟩ = some (.int .i64 4) := by simp [World.cell?, hP]
  have p1 : W.cell? ⟨w.heap.size, 1, none⟩ = some (.int .i64 u) := by simp [World.cell?, hP]
  have p2 : W.cell? ⟨w.heap.size, 2, none⟩ = some (.int .i64 v) := by simp [World.cell?, hP]
  have p3 : W.cell? ⟨w.heap.size, 3, none⟩ = some (.int .u64 d) := by simp [World.cell?, hP]
  have hfed : (unpinT me).run (stM Res.n) (rs.drop 0) ≠ .out := by
    intro h
    have h2 := (epochT_fed t me 4 u f rs.length HF.out).run (l := rs) Res.n
    rw [show epochT t me 4 u f = (unpinT me).bind fun a => .ret ((fun _ => ⟨0, false, 0, 0⟩) a) from rfl, PT.run_bind] at h2
    rw [List.drop_zero] at h
    rw [h] at h2
    exact h2 rfl
  go_wp2_with fail
  refine (runpin2 me hm1 hm2 (w.heap.size + 1 + 1 + 1) B n kc ⟨0, false, Acc.zero⟩ rs _ hL hsep hC (Nat.zero_le _) hU).mono ?_
  rintro e w1 ⟨s1, a, rfl, hC1, hx, hc⟩
  have hO1 := hx.heap hO (by omega)
  have hA1 := hx.heap hA (by omega)
  have hQ1 := hx.heap hQ (by omega)
  have hW1 := hx.ext hW (by omega)
  clear hC hO hA hQ hW hL p0 p1 p2 p3 hP hx hfed hsep hlog
  have hfin := cq_fin (unpinT me) ((fun _ => ⟨0, false, 0, 0⟩)) rs a s1 hc
  rw [show (unpinT me).bind (fun a => .ret ((fun _ => ⟨0, false, 0, 0⟩) a)) = epochT t me 4 u f from rfl, HN.out] at hfin
  clear hc
  have hC := hC1
  have hO := hO1
  have hA := hA1
  have hQ := hQ1
  have hW := hW1
  clear hC1 hO1 hA1 hQ1 hW1
  have o0 : w1.cell? ⟨w.heap.size + 1 + 1 + 1 + 1, 0, none⟩ = some (.int .i64 0) := by simp [World.cell?, hO]
  have o1 : w1.cell? ⟨w.heap.size + 1 + 1 + 1 + 1, 1, none⟩ = some (.bool false) := by simp [World.cell?, hO]
  have o2 : w1.cell? ⟨w.heap.size + 1 + 1 + 1 + 1, 2, none⟩ = some (.int .i64 0) := by simp [World.cell?, hO]
  have o3 : w1.cell? ⟨w.heap.size + 1 + 1 + 1 + 1, 3, none⟩ = some (.int .u64 0) := by simp [World.cell?, hO]
  have o4 : w1.cell? ⟨w.heap.size + 1 + 1 + 1 + 1, 4, none⟩ = some (.slice none 0 0) := by simp [World.cell?, hO]
  go_wp2_with fail
  refine (told_any (w.heap.size + 1 + 1 + 1) B n kc s1 ⟨0, false, 0, 0⟩ _ hC).mono ?_
  rintro e w5 ⟨rfl, hx5⟩
  clear o0 o1 o2 o3 o4
  replace hA := heap_ext hA hx5
  replace hQ := heap_ext hQ hx5
  replace hW := hW.trans hx5
  clear hx5 hO hC
  generalize (if s1.stop = true then s1.x else Acc.zero) = XA at *
  generalize (if s1.stop = true then (⟨0, false, 0, 0⟩ : OutN) else ⟨0, false, 0, 0⟩) = OA at *
  generalize (!s1.stop) = b at *
  obtain ⟨x0, x1, x2, x3, x4, x5, x6, x7, x8, x9⟩ := XA
  obtain ⟨o0, o1, o2, o3⟩ := OA
  simp only [Acc.cells, OutN.cells] at hfin ⊢
  have HFI := Lib.hid hfin
  clear hfin
  have e0 : w5.cell? ⟨w.heap.size + 1, 0, none⟩ = some (.int .i64 0) := by simp [World.cell?, hA]
  have ef0 : w5.frozen? ⟨w.heap.size + 1, 0, none⟩ = false := by simp [World.frozen?, hA]
  have e1 : w5.cell? ⟨w.heap.size + 1, 1, none⟩ = some (.int .i64 0) := by simp [World.cell?, hA]
  have ef1 : w5.frozen? ⟨w.heap.size + 1, 1, none⟩ = false := by simp [World.frozen?, hA]
  have e2 : w5.cell? ⟨w.heap.size + 1, 2, none⟩ = some (.int .u64 0) := by simp [World.cell?, hA]
  have ef2 : w5.frozen? ⟨w.heap.size + 1, 2, none⟩ = false := by simp [World.frozen?, hA]
  have e3 : w5.cell? ⟨w.heap.size + 1, 3, none⟩ = some (.int .u64 0) := by simp [World.cell?, hA]
  have ef3 : w5.frozen? ⟨w.heap.size + 1, 3, none⟩ = false := by simp [World.frozen?, hA]
  have e4 : w5.cell? ⟨w.heap.size + 1, 4, none⟩ = some (.slice none 0 0) := by simp [World.cell?, hA]
  have ef4 : w5.frozen? ⟨w.heap.size + 1, 4, none⟩ = false := by simp [World.frozen?, hA]
  have e5 : w5.cell? ⟨w.heap.size + 1, 5, none⟩ = some (.slice none 0 0) := by simp [World.cell?, hA]
  have ef5 : w5.frozen? ⟨w.heap.size + 1, 5, none⟩ = false := by simp [World.frozen?, hA]
  have q0 : w5.cell? ⟨w.heap.size + 1 + 1, 0, none⟩ = some (.int .i64 0) := by simp [World.cell?, hQ]
  have qf0 : w5.frozen? ⟨w.heap.size + 1 + 1, 0, none⟩ = false := by simp [World.frozen?, hQ]
  have q1 : w5.cell? ⟨w.heap.size + 1 + 1, 1, none⟩ = some (.bool false) := by simp [World.cell?, hQ]
  have qf1 : w5.frozen? ⟨w.heap.size + 1 + 1, 1, none⟩ = false := by simp [World.frozen?, hQ]
  have q2 : w5.cell? ⟨w.heap.size + 1 + 1, 2, none⟩ = some (.int .i64 0) := by simp [World.cell?, hQ]
  have qf2 : w5.frozen? ⟨w.heap.size + 1 + 1, 2, none⟩ = false := by simp [World.frozen?, hQ]
  have q3 : w5.cell? ⟨w.heap.size + 1 + 1, 3, none⟩ = some (.int .u64 0) := by simp [World.cell?, hQ]
  have qf3 : w5.frozen? ⟨w.heap.size + 1 + 1, 3, none⟩ = false := by simp [World.frozen?, hQ]
  have q4 : w5.cell? ⟨w.heap.size + 1 + 1, 4, none⟩ = some (.slice none 0 0) := by simp [World.cell?, hQ]
  have qf4 : w5.frozen? ⟨w.heap.size + 1 + 1, 4, none⟩ = false := by simp [World.frozen?, hQ]
  have hPm : (setAll (w.heap.size + 1 + 1) 0 [.int .i64 o0, .bool o1, .int .i64 o2, .int .u64 o3, .slice none 0 0] (setAll (w.heap.size + 1) 0 [.int .i64 x0, .int .i64 x1, .int .u64 x2, .int .u64 x3, .slice x4 x5 x6, .slice x7 x8 x9] w5)).heap[w.heap.size + 1 + 1]? = some (.cells #[.int .i64 o0, .bool o1, .int .i64 o2, .int .u64 o3, .slice none 0 0] 37 (0, 0)) := setAll_all (vs := [.int .i64 o0, .bool o1, .int .i64 o2, .int .u64 o3, .slice none 0 0]) ((setAll_other (g := w.heap.size + 1) (by omega) [.int .i64 x0, .int .i64 x1, .int .u64 x2, .int .u64 x3, .slice x4 x5 x6, .slice x7 x8 x9] 0 w5).trans hQ) rfl
  have hEm : (setAll (w.heap.size + 1 + 1) 0 [.int .i64 o0, .bool o1, .int .i64 o2, .int .u64 o3, .slice none 0 0] (setAll (w.heap.size + 1) 0 [.int .i64 x0, .int .i64 x1, .int .u64 x2, .int .u64 x3, .slice x4 x5 x6, .slice x7 x8 x9] w5)).heap[w.heap.size + 1]? = some (.cells #[.int .i64 x0, .int .i64 x1, .int .u64 x2, .int .u64 x3, .slice x4 x5 x6, .slice x7 x8 x9] 33 (0, 0)) := (setAll_other (g := w.heap.size + 1 + 1) (by omega) [.int .i64 o0, .bool o1, .int .i64 o2, .int .u64 o3, .slice none 0 0] 0 (setAll (w.heap.size + 1) 0 [.int .i64 x0, .int .i64 x1, .int .u64 x2, .int .u64 x3, .slice x4 x5 x6, .slice x7 x8 x9] w5)).trans (setAll_all (vs := [.int .i64 x0, .int .i64 x1, .int .u64 x2, .int .u64 x3, .slice x4 x5 x6, .slice x7 x8 x9]) hA rfl)
  have hF : Ext w (setAll (w.heap.size + 1 + 1) 0 [.int .i64 o0, .bool o1, .int .i64 o2, .int .u64 o3, .slice none 0 0] (setAll (w.heap.size + 1) 0 [.int .i64 x0, .int .i64 x1, .int .u64 x2, .int .u64 x3, .slice x4 x5 x6, .slice x7 x8 x9] w5)) := setAll_ext (g := w.heap.size + 1 + 1) (setAll_ext (g := w.heap.size + 1) hW (by omega)) (by omega)
  simp only [setAll] at hPm hEm hF
  clear hA hQ hW
  go_wp2
  generalize (((((((((((w5.setCell ⟨w.heap.size + 1, 0, none⟩ (.int .i64 x0)).setCell ⟨w.heap.size + 1, 1, none⟩ (.int .i64 x1)).setCell ⟨w.heap.size + 1, 2, none⟩ (.int .u64 x2)).setCell ⟨w.heap.size + 1, 3, none⟩ (.int .u64 x3)).setCell ⟨w.heap.size + 1, 4, none⟩ (.slice x4 x5 x6)).setCell ⟨w.heap.size + 1, 5, none⟩ (.slice x7 x8 x9)).setCell ⟨w.heap.size + 1 + 1, 0, none⟩ (.int .i64 o0)).setCell ⟨w.heap.size + 1 + 1, 1, none⟩ (.bool o1)).setCell ⟨w.heap.size + 1 + 1, 2, none⟩ (.int .i64 o2)).setCell ⟨w.heap.size + 1 + 1, 3, none⟩ (.int .u64 o3)).setCell ⟨w.heap.size + 1 + 1, 4, none⟩ (.slice none 0 0)) = wf at *
  clear e0 e1 e2 e3 e4 e5 ef0 ef1 ef2 ef3 ef4 ef5 q0 q1 q2 q3 q4 qf0 qf1 qf2 qf3 qf4
  have e0 : wf.cell? ⟨w.heap.size + 1, 0, none⟩ = some (.int .i64 x0) := by simp [World.cell?, hEm]
  have e1 : wf.cell? ⟨w.heap.size + 1, 1, none⟩ = some (.int .i64 x1) := by simp [World.cell?, hEm]
  have e2 : wf.cell? ⟨w.heap.size + 1, 2, none⟩ = some (.int .u64 x2) := by simp [World.cell?, hEm]
  have e3 : wf.cell? ⟨w.heap.size + 1, 3, none⟩ = some (.int .u64 x3) := by simp [World.cell?, hEm]
  have e4 : wf.cell? ⟨w.heap.size + 1, 4, none⟩ = some (.slice x4 x5 x6) := by simp [World.cell?, hEm]
  have e5 : wf.cell? ⟨w.heap.size + 1, 5, none⟩ = some (.slice x7 x8 x9) := by simp [World.cell?, hEm]
  have q0 : wf.cell? ⟨w.heap.size + 1 + 1, 0, none⟩ = some (.int .i64 o0) := by simp [World.cell?, hPm]
  have q1 : wf.cell? ⟨w.heap.size + 1 + 1, 1, none⟩ = some (.bool o1) := by simp [World.cell?, hPm]
  have q2 : wf.cell? ⟨w.heap.size + 1 + 1, 2, none⟩ = some (.int .i64 o2) := by simp [World.cell?, hPm]
  have q3 : wf.cell? ⟨w.heap.size + 1 + 1, 3, none⟩ = some (.int .u64 o3) := by simp [World.cell?, hPm]
  have q4 : wf.cell? ⟨w.heap.size + 1 + 1, 4, none⟩ = some (.slice none 0 0) := by simp [World.cell?, hPm]
  refine bodyPost_ret (v := .tuple #[.agg #[.int .i64 x0, .int .i64 x1, .int .u64 x2, .int .u64 x3, .slice x4 x5 x6, .slice x7 x8 x9], .agg #[.int .i64 o0, .bool o1, .int .i64 o2, .int .u64 o3, .slice none 0 0], .bool b]) (by simp [results, Try.results18, go_sem, e0, e1, e2, e3, e4, e5, q0, q1, q2, q3, q4]) rfl ⟨by rw [HN.out, HFI.out], hF⟩
set_option maxRecDepth 100000 in
set_option maxHeartbeats 4000000 in
theorem rnx_ret (f : Nat) (t me u v d : Int) (ht1 : 0 ≤ t) (ht2 : t ≤ 64) (hm1 : 0 ≤ me) (hm2 : me ≤ 64) (hu1 : 0 ≤ u) (hu2 : u < 1048576) (B : Option Addr) (n kc : Nat) (rs : List Res) (hf : rs.length < f) (w : World) (hlog : LogV w B n kc rs) (hU : GoodR rs) :
    Calls Try.prog 18 #[.int .i64 t, .int .i64 me, .agg #[.int .i64 5, .int .i64 u, .int .i64 v, .int .u64 d], .slice B n kc] w fun e w' => e = (nextT (epochT t me 5 u f) (rs.map Res.n)).fin ∧ Ext w w' := by
  obtain ⟨E, hE0⟩ : ∃ E, (nextT (epochT t me 5 u f) (rs.map Res.n)).fin = E := ⟨_, rfl⟩
  have HN := Lib.hid hE0
  clear hE0
  have HF := Lib.hid hf
  clear hf
  have hmk : ∀ W : World, (Instr.build 142 #[(0, .slice B n kc)]).run Try.prog W = .ok (.agg #[.slice B n kc, .int .i64 0, .bool false, .int .i64 0, .int .i64 0, .int .u64 0, .int .u64 0, .slice none 0 0, .slice none 0 0]) W := fun _ => by kernel_rfl
  have hmo : ∀ W : World, (Instr.build 37 #[]).run Try.prog W = .ok (.agg #[.int .i64 0, .bool false, .int .i64 0, .int .u64 0, .slice none 0 0]) W := fun _ => by kernel_rfl
  have hsep : ∀ a, B = some a → 0 < n → a.block ≠ w.heap.size + 1 + 1 + 1 := fun a ha hk => by subst ha; have := hlog.low hk; omega
  go_enter Try.func18, Try.ntmps18
  go_upto_region 3 with (fail)
  obtain ⟨hW, hP, hA, hQ, hC, hO⟩ := boxes5n w (.cells #[.int .i64 5, .int .i64 u, .int .i64 v, .int .u64 d] 24) (.cells #[.int .i64 0, .int .i64 0, .int .u64 0, .int .u64 0, .slice none 0 0, .slice none 0 0] 33) (.cells #[.int .i64 0, .bool false, .int .i64 0, .int .u64 0, .slice none 0 0] 37) (.cells #[.slice B n kc, .int .i64 0, .bool false, .int .i64 0, .int .i64 0, .int .u64 0, .int .u64 0, .slice none 0 0, .slice none 0 0] 142) (.cells #[.int .i64 0, .bool false, .int .i64 0, .int .u64 0, .slice none 0 0] 37)
  generalize ((((w.alloc (.cells #[.int .i64 5, .int .i64 u, .int .i64 v, .int .u64 d] 24)).alloc (.cells #[.int .i64 0, .int .i64 0, .int .u64 0, .int .u64 0, .slice none 0 0, .slice none 0 0] 33)).alloc (.cells #[.int .i64 0, .bool false, .int .i64 0, .int .u64 0, .slice none 0 0] 37)).alloc (.cells #[.slice B n kc, .int .i64 0, .bool false, .int .i64 0, .int .i64 0, .int .u64 0, .int .u64 0, .slice none 0 0, .slice none 0 0] 142)).alloc (.cells #[.int .i64 0, .bool false, .int .i64 0, .int .u64 0, .slice none 0 0] 37) = W at *
  have hC : CurAt W (w.heap.size + 1 + 1 + 1) B n kc ⟨0, false, Acc.zero⟩ := hC
  have hL := hlog.ext hW
  have p0 : W.cell? ⟨w.heap.size, 0, none⟩ = some (.int .i64 5) := by simp [World.cell?, hP]
  have p1 : W.cell? ⟨w.heap.size, 1, none⟩ = some (.int .i64 u) := by simp [World.cell?, hP]
  have p2 : W.cell? ⟨w.heap.size, 2, none⟩ = some (.int .i64 v) := by simp [World.cell?, hP]
  have p3 : W.cell? ⟨w.heap.size, 3, none⟩ = some (.int .u64 d) := by simp [World.cell?, hP]
  have hfed : (retireT t u f).run (stM Res.n) (rs.drop 0) ≠ .out := by
    intro h
    have h2 := (epochT_fed t me 5 u f rs.length HF.out).run (l := rs) Res.n
    rw [show epochT t me 5 u f = (retireT t u f).bind fun a => .ret ((fun _ => ⟨0, false, 0, 0⟩) a) from rfl, PT.run_bind] at h2
    rw [List.drop_zero] at h
    rw [h] at h2
    exact h2 rfl
  go_wp2_with fail
  refine (rretire2 t u f ht1 ht2 hu1 hu2 (w.heap.size + 1 + 1 + 1) B n kc ⟨0, false, Acc.zero⟩ rs _ hL hsep hC (Nat.zero_le _) hU (fun _ => hfed)).mono ?_
  rintro e w1 ⟨s1, a, rfl, hC1, hx, hc⟩
  have hO1 := hx.heap hO (by omega)
  have hA1 := hx.heap hA (by omega)
  have hQ1 := hx.heap hQ (by omega)
  have hW1 := hx.ext hW (by omega)
  clear hC hO hA hQ hW hL p0 p1 p2 p3 hP hx hfed hsep hlog
  have hfin := cq_fin (retireT t u f) ((fun _ => ⟨0, false, 0, 0⟩)) rs a s1 hc
  rw [show (retireT t u f).bind (fun a => .ret ((fun _ => ⟨0, false, 0, 0⟩) a)) = epochT t me 5 u f from rfl, HN.out] at hfin
  clear hc
  have hC := hC1
  have hO := hO1
  have hA := hA1
  have hQ := hQ1
  have hW := hW1
  clear hC1 hO1 hA1 hQ1 hW1
  have o0 : w1.cell? ⟨w.heap.size + 1 + 1 + 1 + 1, 0, none⟩ = some (.int .i64 0) := by simp [World.cell?, hO]
  have o1 : w1.cell? ⟨w.heap.size + 1 + 1 + 1 + 1, 1, none⟩ = some (.bool false) := by simp [World.cell?, hO]
  have o2 : w1.cell? ⟨w.heap.size + 1 + 1 + 1 + 1, 2, none⟩ = some (.int .i64 0) := by simp [World.cell?, hO]
  have o3 : w1.cell? ⟨w.heap.size + 1 + 1 + 1 + 1, 3, none⟩ = some (.int .u64 0) := by simp [World.cell?, hO]
  have o4 : w1.cell? ⟨w.heap.size + 1 + 1 + 1 + 1, 4, none⟩ = some (.slice none 0 0) := by simp [World.cell?, hO]
  go_wp2_with fail
  refine (told_any (w.heap.size + 1 + 1 + 1) B n kc s1 ⟨0, false, 0, 0⟩ _ hC).mono ?_
  rintro e w5 ⟨rfl, hx5⟩
  clear o0 o1 o2 o3 o4
  replace hA := heap_ext hA hx5
  replace hQ := heap_ext hQ hx5
  replace hW := hW.trans hx5
  clear hx5 hO hC
  generalize (if s1.stop = true then s1.x else Acc.zero) = XA at *
  generalize (if s1.stop = true then (⟨0, false, 0, 0⟩ : OutN) else ⟨0, false, 0, 0⟩) = OA at *
  generalize (!s1.stop) = b at *
  obtain ⟨x0, x1, x2, x3, x4, x5, x6, x7, x8, x9⟩ := XA
  obtain ⟨o0, o1, o2, o3⟩ := OA
  simp only [Acc.cells, OutN.cells] at hfin ⊢
  have HFI := Lib.hid hfin
  clear hfin
  have e0 : w5.cell? ⟨w.heap.size + 1, 0, none⟩ = some (.int .i64 0) := by simp [World.cell?, hA]
  have ef0 : w5.frozen? ⟨w.heap.size + 1, 0, none⟩ = false := by simp [World.frozen?, hA]
  have e1 : w5.cell? ⟨w.heap.size + 1, 1, none⟩ = some (.int .i64 0) := by simp [World.cell?, hA]
  have ef1 : w5.frozen? ⟨w.heap.size + 1, 1, none⟩ = false := by simp [World.frozen?, hA]
  have e2 : w5.cell? ⟨w.heap.size + 1, 2, none⟩ = some (.int .u64 0) := by simp [World.cell?, hA]
  have ef2 : w5.frozen? ⟨w.heap.size + 1, 2, none⟩ = false := by simp [World.frozen?, hA]
  have e3 : w5.cell? ⟨w.heap.size + 1, 3, none⟩ = some (.int .u64 0) := by simp [World.cell?, hA]
  have ef3 : w5.frozen? ⟨w.heap.size + 1, 3, none⟩ = false := by simp [World.frozen?, hA]
  have e4 : w5.cell? ⟨w.heap.size + 1, 4, none⟩ = some (.slice none 0 0) := by simp [World.cell?, hA]
  have ef4 : w5.frozen? ⟨w.heap.size + 1, 4, none⟩ = false := by simp [World.frozen?, hA]
  have e5 : w5.cell? ⟨w.heap.size + 1, 5, none⟩ = some (.slice none 0 0) := by simp [World.cell?, hA]
  have ef5 : w5.frozen? ⟨w.heap.size + 1, 5, none⟩ = false := by simp [World.frozen?, hA]
  have q0 : w5.cell? ⟨w.heap.size + 1 + 1, 0, none⟩ = some (.int .i64 0) := by simp [World.cell?, hQ]
  have qf0 : w5.frozen? ⟨w.heap.size + 1 + 1, 0, none⟩ = false := by simp [World.frozen?, hQ]
  have q1 : w5.cell? ⟨w.heap.size + 1 + 1, 1, none⟩ = some (.bool false) := by simp [World.cell?, hQ]
  have qf1 : w5.frozen? ⟨w.heap.size + 1 + 1, 1, none⟩ = false := by simp [World.frozen?, hQ]
  have q2 : w5.cell? ⟨w.heap.size + 1 + 1, 2, none⟩ = some (.int .i64 0) := by simp [World.cell?, hQ]
  have qf2 : w5.frozen? ⟨w.heap.size + 1 + 1, 2, none⟩ = false := by simp [World.frozen?, hQ]
  have q3 : w5.cell? ⟨w.heap.size + 1 + 1, 3, none⟩ = some (.int .u64 0) := by simp [World.cell?, hQ]
  have qf3 : w5.frozen? ⟨w.heap.size + 1 + 1, 3, none⟩ = false := by simp [World.frozen?, hQ]
  have q4 : w5.cell? ⟨w.heap.size + 1 + 1, 4, none⟩ = some (.slice none 0 0) := by simp [World.cell?, hQ]
  have qf4 : w5.frozen? ⟨w.heap.size + 1 + 1, 4, none⟩ = false := by simp [World.frozen?, hQ]
  have hPm : (setAll (w.heap.size + 1 + 1) 0 [.int .i64 o0, .bool o1, .int .i64 o2, .int .u64 o3, .slice none 0 0] (setAll (w.heap.size + 1) 0 [.int .i64 x0, .int .i64 x1, .int .u64 x2, .int .u64 x3, .slice x4 x5 x6, .slice x7 x8 x9] w5)).heap[w.heap.size + 1 + 1]? = some (.cells #[.int .i64 o0, .bool o1, .int .i64 o2, .int .u64 o3, .slice none 0 0] 37 (0, 0)) := setAll_all (vs := [.int .i64 o0, .bool o1, .int .i64 o2, .int .u64 o3, .slice none 0 0]) ((setAll_other (g := w.heap.size + 1) (by omega) [.int .i64 x0, .int .i64 x1, .int .u64 x2, .int .u64 x3, .slice x4 x5 x6, .slice x7 x8 x9] 0 w5).trans hQ) rfl
  have hEm : (setAll (w.heap.size + 1 + 1) 0 [.int .i64 o0, .bool o1, .int .i64 o2, .int .u64 o3, .slice none 0 0] (setAll (w.heap.size + 1) 0 [.int .i64 x0, .int .i64 x1, .int .u64 x2, .int .u64 x3, .slice x4 x5 x6, .slice x7 x8 x9] w5)).heap[w.heap.size + 1]? = some (.cells #[.int .i64 x0, .int .i64 x1, .int .u64 x2, .int .u64 x3, .slice x4 x5 x6, .slice x7 x8 x9] 33 (0, 0)) := (setAll_other (g := w.heap.size + 1 + 1) (by omega) [.int .i64 o0, .bool o1, .int .i64 o2, .int .u64 o3, .slice none 0 0] 0 (setAll (w.heap.size + 1) 0 [.int .i64 x0, .int .i64 x1, .int .u64 x2, .int .u64 x3, .slice x4 x5 x6, .slice x7 x8 x9] w5)).trans (setAll_all (vs := [.int .i64 x0, .int .i64 x1, .int .u64 x2, .int .u64 x3, .slice x4 x5 x6, .slice x7 x8 x9]) hA rfl)
  have hF : Ext w (setAll (w.heap.size + 1 + 1) 0 [.int .i64 o0, .bool o1, .int .i64 o2, .int .u64 o3, .slice none 0 0] (setAll (w.heap.size + 1) 0 [.int .i64 x0, .int .i64 x1, .int .u64 x2, .int .u64 x3, .slice x4 x5 x6, .slice x7 x8 x9] w5)) := setAll_ext (g := w.heap.size + 1 + 1) (setAll_ext (g := w.heap.size + 1) hW (by omega)) (by omega)
  simp only [setAll] at hPm hEm hF
  clear hA hQ hW
  go_wp2
  generalize (((((((((((w5.setCell ⟨w.heap.size + 1, 0, none⟩ (.int .i64 x0)).setCell ⟨w.heap.size + 1, 1, none⟩ (.int .i64 x1)).setCell ⟨w.heap.size + 1, 2, none⟩ (.int .u64 x2)).setCell ⟨w.heap.size + 1, 3, none⟩ (.int .u64 x3)).setCell ⟨w.heap.size + 1, 4, none⟩ (.slice x4 x5 x6)).setCell ⟨w.heap.size + 1, 5, none⟩ (.slice x7 x8 x9)).setCell ⟨w.heap.size + 1 + 1, 0, none⟩ (.int .i64 o0)).setCell ⟨w.heap.size + 1 + 1, 1, none⟩ (.bool o1)).setCell ⟨w.heap.size + 1 + 1, 2, none⟩ (.int .i64 o2)).setCell ⟨w.heap.size + 1 + 1, 3, none⟩ (.int .u64 o3)).setCell ⟨w.heap.size + 1 + 1, 4, none⟩ (.slice none 0 0)) = wf at *
  clear e0 e1 e2 e3 e4 e5 ef0 ef1 ef2 ef3 ef4 ef5 q0 q1 q2 q3 q4 qf0 qf1 qf2 qf3 qf4
  have e0 : wf.cell? ⟨w.heap.size + 1, 0, none⟩ = some (.int .i64 x0) := by simp [World.cell?, hEm]
  have e1 : wf.cell? ⟨w.heap.size + 1, 1, none⟩ = some (.int .i64 x1) := by simp [World.cell?, hEm]
  have e2 : wf.cell? ⟨w.heap.size + 1, 2, none⟩ = some (.int .u64 x2) := by simp [World.cell?, hEm]
  have e3 : wf.cell? ⟨w.heap.size + 1, 3, none⟩ = some (.int .u64 x3) := by simp [World.cell?, hEm]
  have e4 : wf.cell? ⟨w.heap.size + 1, 4, none⟩ = some (.slice x4 x5 x6) := by simp [World.cell?, hEm]
  have e5 : wf.cell? ⟨w.heap.size + 1, 5, none⟩ = some (.slice x7 x8 x9) := by simp [World.cell?, hEm]
  have q0 : wf.cell? ⟨w.heap.size + 1 + 1, 0, none⟩ = some (.int .i64 o0) := by simp [World.cell?, hPm]
  have q1 : wf.cell? ⟨w.heap.size + 1 + 1, 1, none⟩ = some (.bool o1) := by simp [World.cell?, hPm]
  have q2 : wf.cell? ⟨w.heap.size + 1 + 1, 2, none⟩ = some (.int .i64 o2) := by simp [World.cell?, hPm]
  have q3 : wf.cell? ⟨w.heap.size + 1 + 1, 3, none⟩ = some (.int .u64 o3) := by simp [World.cell?, hPm]
  have q4 : wf.cell? ⟨w.heap.size + 1 + 1, 4, none⟩ = some (.slice none 0 0) := by simp [World.cell?, hPm]
  refine bodyPost_ret (v := .tuple #[.agg #[.int .i64 x0, .int .i64 x1, .int .u64 x2, .int .u64 x3, .slice x4 x5 x6, .slice x7 x8 x9], .agg #[.int .i64 o0, .bool o1, .int .i64 o2, .int .u64 o3, .slice none 0 0], .bool b]) (by simp [results, Try.results18, go_sem, e0, e1, e2, e3, e4, e5, q0, q1, q2, q3, q4]) rfl ⟨by rw [HN.out, HFI.out], hF⟩
set_option maxRecDepth 100000 in
set_option maxHeartbeats 4000000 in
theorem rnx_alloc (f : Nat) (t me u v d : Int) (ht1 : 0 ≤ t) (ht2 : t ≤ 64) (hm1 : 0 ≤ me) (hm2 : me ≤ 64)  (B : Option Addr) (n kc : Nat) (rs : List Res) (hf : rs.length < f) (w : World) (hlog : LogV w B n kc rs) (hU : GoodR rs) :
    Calls Try.prog 18 #[.int .i64 t, .int .i64 me, .agg #[.int .i64 6, .int .i64 u, .int .i64 v, .int .u64 d], .slice B n kc] w fun e w' => e = (nextT (epochT t me 6 u f) (rs.map Res.n)).fin ∧ Ext w w' := by
  obtain ⟨E, hE0⟩ : ∃ E, (nextT (epochT t me 6 u f) (rs.map Res.n)).fin = E := ⟨_, rfl⟩
  have HN := Lib.hid hE0
  clear hE0
  have HF := Lib.hid hf
  clear hf
  have hmk : ∀ W : World, (Instr.build 142 #[(0, .slice B n kc)]).run Try.prog W = .ok (.agg #[.slice B n kc, .int .i64 0, .bool false, .int .i64 0, .int .i64 0, .int .u64 0, .int .u64 0, .slice none 0 0, .slice none 0 0]) W := fun _ => by kernel_rfl
  have hmo : ∀ W : World, (Instr.build 37 #[]).run Try.prog W = .ok (.agg #[.int .i64 0, .bool false, .int .i64 0, .int .u64 0, .slice none 0 0]) W := fun _ => by kernel_rfl
  have hsep : ∀ a, B = some a → 0 < n → a.block ≠ w.heap.size + 1 + 1 + 1 := fun a ha hk => by subst ha; have := hlog.low hk; omega
  go_enter Try.func18, Try.ntmps18
  go_upto_region 3 with (fail)
  obtain ⟨hW, hP, hA, hQ, hC, hO⟩ := boxes5n w (.cells #[.int .i64 6, .int .i64 u, .int .i64 v, .int .u64 d] 24) (.cells #[.int .i64 0, .int .i64 0, .int .u64 0, .int .u64 0, .slice none 0 0, .slice none 0 0] 33) (.cells #[.int .i64 0, .bool false, .int .i64 0, .int .u64 0, .slice none 0 0] 37) (.cells #[.slice B n kc, .int .i64 0, .bool false, .int .i64 0, .int .i64 0, .int .u64 0, .int .u64 0, .slice none 0 0, .slice none 0 0] 142) (.cells #[.int .i64 0, .bool false, .int .i64 0, .int .u64 0, .slice none 0 0] 37)
  generalize ((((w.alloc (.cells #[.int .i64 6, .int .i64 u, .int .i64 v, .int .u64 d] 24)).alloc (.cells #[.int .i64 0, .int .i64 0, .int .u64 0, .int .u64 0, .slice none 0 0, .slice none 0 0] 33)).alloc (.cells #[.int .i64 0, .bool false, .int .i64 0, .int .u64 0, .slice none 0 0] 37)).alloc (.cells #[.slice B n kc, .int .i64 0, .bool false, .int .i64 0, .int .i64 0, .int .u64 0, .int .u64 0, .slice none 0 0, .slice none 0 0] 142)).alloc (.cells #[.int .i64 0, .bool false, .int .i64 0, .int .u64 0, .slice none 0 0] 37) = W at *
  have hC : CurAt W (w.heap.size + 1 + 1 + 1) B n kc ⟨0, false, Acc.zero⟩ := hC
  have hL := hlog.ext hW
  have p0 : W.cell? ⟨w.heap.size, 0, none⟩ = some (.int .i64 6) := by simp [World.cell?, hP]
  have p1 : W.cell? ⟨w.heap.size, 1, none⟩ = some (.int .i64 u) := by simp [World.cell?, hP]
  have p2 : W.cell? ⟨w.heap.size, 2, none⟩ = some (.int .i64 v) := by simp [World.cell?, hP]
  have p3 : W.cell? ⟨w.heap.size, 3, none⟩ = some (.int .u64 d) := by simp [World.cell?, hP]
  have hfed : (allocT t me f).run (stM Res.n) (rs.drop 0) ≠ .out := by
    intro h
    have h2 := (epochT_fed t me 6 u f rs.length HF.out).run (l := rs) Res.n
    rw [show epochT t me 6 u f = (allocT t me f).bind fun a => .ret ((fun r => ⟨0, false, r, 0⟩) a) from rfl, PT.run_bind] at h2
    rw [List.drop_zero] at h
    rw [h] at h2
    exact h2 rfl
  go_wp2_with fail
  refine (ralloc2 t me f ht1 ht2 hm1 hm2 (w.heap.size + 1 + 1 + 1) B n kc ⟨0, false, Acc.zero⟩ rs _ hL hsep hC (Nat.zero_le _) hU (fun _ => hfed)).mono ?_
  rintro e w1 ⟨s1, a, rfl, hC1, hx, hc⟩
  have hO1 := hx.heap hO (by omega)
  have hA1 := hx.heap hA (by omega)
  have hQ1 := hx.heap hQ (by omega)
  have hW1 := hx.ext hW (by omega)
  clear hC hO hA hQ hW hL p0 p1 p2 p3 hP hx hfed hsep hlog
  have hfin := cq_fin (allocT t me f) ((fun r => ⟨0, false, r, 0⟩)) rs a s1 hc
  rw [show (allocT t me f).bind (fun a => .ret ((fun r => ⟨0, false, r, 0⟩) a)) = epochT t me 6 u f from rfl, HN.out] at hfin
  clear hc
  have o0 : w1.cell? ⟨w.heap.size + 1 + 1 + 1 + 1, 0, none⟩ = some (.int .i64 0) := by simp [World.cell?, hO1]
  have of0 : w1.frozen? ⟨w.heap.size + 1 + 1 + 1 + 1, 0, none⟩ = false := by simp [World.frozen?, hO1]
  have o1 : w1.cell? ⟨w.heap.size + 1 + 1 + 1 + 1, 1, none⟩ = some (.bool false) := by simp [World.cell?, hO1]
  have of1 : w1.frozen? ⟨w.heap.size + 1 + 1 + 1 + 1, 1, none⟩ = false := by simp [World.frozen?, hO1]
  have o2 : w1.cell? ⟨w.heap.size + 1 + 1 + 1 + 1, 2, none⟩ = some (.int .i64 0) := by simp [World.cell?, hO1]
  have of2 : w1.frozen? ⟨w.heap.size + 1 + 1 + 1 + 1, 2, none⟩ = false := by simp [World.frozen?, hO1]
  have o3 : w1.cell? ⟨w.heap.size + 1 + 1 + 1 + 1, 3, none⟩ = some (.int .u64 0) := by simp [World.cell?, hO1]
  have of3 : w1.frozen? ⟨w.heap.size + 1 + 1 + 1 + 1, 3, none⟩ = false := by simp [World.frozen?, hO1]
  have o4 : w1.cell? ⟨w.heap.size + 1 + 1 + 1 + 1, 4, none⟩ = some (.slice none 0 0) := by simp [World.cell?, hO1]
  have of4 : w1.frozen? ⟨w.heap.size + 1 + 1 + 1 + 1, 4, none⟩ = false := by simp [World.frozen?, hO1]
  go_upto_region 15 with (fail)
  have hO2 : (w1.setCell ⟨w.heap.size + 1 + 1 + 1 + 1, 2, none⟩ (.int .i64 a)).heap[w.heap.size + 1 + 1 + 1 + 1]? = some (.cells #[.int .i64 0, .bool false, .int .i64 a, .int .u64 0, .slice none 0 0] 37 (0, 0)) := heap_setCell_at hO1
  have hC2 : CurAt (w1.setCell ⟨w.heap.size + 1 + 1 + 1 + 1, 2, none⟩ (.int .i64 a)) (w.heap.size + 1 + 1 + 1) B n kc _ := (Below.heap_setCell _ _ _ _ (by simp)).trans hC1
  have hA2 : (w1.setCell ⟨w.heap.size + 1 + 1 + 1 + 1, 2, none⟩ (.int .i64 a)).heap[w.heap.size + 1]? = _ := (Below.heap_setCell _ _ _ _ (by simp <;> omega)).trans hA1
  have hQ2 : (w1.setCell ⟨w.heap.size + 1 + 1 + 1 + 1, 2, none⟩ (.int .i64 a)).heap[w.heap.size + 1 + 1]? = _ := (Below.heap_setCell _ _ _ _ (by simp <;> omega)).trans hQ1
  have hW2 : Ext w (w1.setCell ⟨w.heap.size + 1 + 1 + 1 + 1, 2, none⟩ (.int .i64 a)) := hW1.setCell (by simp; omega) _
  clear o0 o1 o2 o3 o4 of0 of1 of2 of3 of4 hO1 hC1 hA1 hQ1 hW1
  generalize w1.setCell ⟨w.heap.size + 1 + 1 + 1 + 1, 2, none⟩ (.int .i64 a) = w2 at *
  have hC := hC2
  have hO := hO2
  have hA := hA2
  have hQ := hQ2
  have hW := hW2
  clear hC2 hO2 hA2 hQ2 hW2
  have o0 : w2.cell? ⟨w.heap.size + 1 + 1 + 1 + 1, 0, none⟩ = some (.int .i64 0) := by simp [World.cell?, hO]
  have o1 : w2.cell? ⟨w.heap.size + 1 + 1 + 1 + 1, 1, none⟩ = some (.bool false) := by simp [World.cell?, hO]
  have o2 : w2.cell? ⟨w.heap.size + 1 + 1 + 1 + 1, 2, none⟩ = some (.int .i64 a) := by simp [World.cell?, hO]
  have o3 : w2.cell? ⟨w.heap.size + 1 + 1 + 1 + 1, 3, none⟩ = some (.int .u64 0) := by simp [World.cell?, hO]
  have o4 : w2.cell? ⟨w.heap.size + 1 + 1 + 1 + 1, 4, none⟩ = some (.slice none 0 0) := by simp [World.cell?, hO]
  go_wp2_with fail
  refine (told_any (w.heap.size + 1 + 1 + 1) B n kc s1 ⟨0, false, a, 0⟩ _ hC).mono ?_
  rintro e w5 ⟨rfl, hx5⟩
  clear o0 o1 o2 o3 o4
  replace hA := heap_ext hA hx5
  replace hQ := heap_ext hQ hx5
  replace hW := hW.trans hx5
  clear hx5 hO hC
  generalize (if s1.stop = true then s1.x else Acc.zero) = XA at *
  generalize (if s1.stop = true then (⟨0, false, 0, 0⟩ : OutN) else ⟨0, false, a, 0⟩) = OA at *
  generalize (!s1.stop) = b at *
  obtain ⟨x0, x1, x2, x3, x4, x5, x6, x7, x8, x9⟩ := XA
  obtain ⟨o0, o1, o2, o3⟩ := OA
  simp only [Acc.cells, OutN.cells] at hfin ⊢
  have HFI := Lib.hid hfin
  clear hfin
  have e0 : w5.cell? ⟨w.heap.size + 1, 0, none⟩ = some (.int .i64 0) := by simp [World.cell?, hA]
  have ef0 : w5.frozen? ⟨w.heap.size + 1, 0, none⟩ = false := by simp [World.frozen?, hA]
  have e1 : w5.cell? ⟨w.heap.size + 1, 1, none⟩ = some (.int .i64 0) := by simp [World.cell?, hA]
  have ef1 : w5.frozen? ⟨w.heap.size + 1, 1, none⟩ = false := by simp [World.frozen?, hA]
  have e2 : w5.cell? ⟨w.heap.size + 1, 2, none⟩ = some (.int .u64 0) := by simp [World.cell?, hA]
  have ef2 : w5.frozen? ⟨w.heap.size + 1, 2, none⟩ = false := by simp [World.frozen?, hA]
  have e3 : w5.cell? ⟨w.heap.size + 1, 3, none⟩ = some (.int .u64 0) := by simp [World.cell?, hA]
  have ef3 : w5.frozen? ⟨w.heap.size + 1, 3, none⟩ = false := by simp [World.frozen?, hA]
  have e4 : w5.cell? ⟨w.heap.size + 1, 4, none⟩ = some (.slice none 0 0) := by simp [World.cell?, hA]
  have ef4 : w5.frozen? ⟨w.heap.size + 1, 4, none⟩ = false := by simp [World.frozen?, hA]
  have e5 : w5.cell? ⟨w.heap.size + 1, 5, none⟩ = some (.slice none 0 0) := by simp [World.cell?, hA]
  have ef5 : w5.frozen? ⟨w.heap.size + 1, 5, none⟩ = false := by simp [World.frozen?, hA]
  have q0 : w5.cell? ⟨w.heap.size + 1 + 1, 0, none⟩ = some (.int .i64 0) := by simp [World.cell?, hQ]
  have qf0 : w5.frozen? ⟨w.heap.size + 1 + 1, 0, none⟩ = false := by simp [World.frozen?, hQ]
  have q1 : w5.cell? ⟨w.heap.size + 1 + 1, 1, none⟩ = some (.bool false) := by simp [World.cell?, hQ]
  have qf1 : w5.frozen? ⟨w.heap.size + 1 + 1, 1, none⟩ = false := by simp [World.frozen?, hQ]
  have q2 : w5.cell? ⟨w.heap.size + 1 + 1, 2, none⟩ = some (.int .i64 0) := by simp [World.cell?, hQ]
  have qf2 : w5.frozen? ⟨w.heap.size + 1 + 1, 2, none⟩ = false := by simp [World.frozen?, hQ]
  have q3 : w5.cell? ⟨w.heap.size + 1 + 1, 3, none⟩ = some (.int .u64 0) := by simp [World.cell?, hQ]
  have qf3 : w5.frozen? ⟨w.heap.size + 1 + 1, 3, none⟩ = false := by simp [World.frozen?, hQ]
  have q4 : w5.cell? ⟨w.heap.size + 1 + 1, 4, none⟩ = some (.slice none 0 0) := by simp [World.cell?, hQ]
  have qf4 : w5.frozen? ⟨w.heap.size + 1 + 1, 4, none⟩ = false := by simp [World.frozen?, hQ]
  have hPm : (setAll (w.heap.size + 1 + 1) 0 [.int .i64 o0, .bool o1, .int .i64 o2, .int .u64 o3, .slice none 0 0] (setAll (w.heap.size + 1) 0 [.int .i64 x0, .int .i64 x1, .int .u64 x2, .int .u64 x3, .slice x4 x5 x6, .slice x7 x8 x9] w5)).heap[w.heap.size + 1 + 1]? = some (.cells #[.int .i64 o0, .bool o1, .int .i64 o2, .int .u64 o3, .slice none 0 0] 37 (0, 0)) := setAll_all (vs := [.int .i64 o0, .bool o1, .int .i64 o2, .int .u64 o3, .slice none 0 0]) ((setAll_other (g := w.heap.size + 1) (by omega) [.int .i64 x0, .int .i64 x1, .int .u64 x2, .int .u64 x3, .slice x4 x5 x6, .slice x7 x8 x9] 0 w5).trans hQ) rfl
  have hEm : (setAll (w.heap.size + 1 + 1) 0 [.int .i64 o0, .bool o1, .int .i64 o2, .int .u64 o3, .slice none 0 0] (setAll (w.heap.size + 1) 0 [.int .i64 x0, .int .i64 x1, .int .u64 x2, .int .u64 x3, .slice x4 x5 x6, .slice x7 x8 x9] w5)).heap[w.heap.size + 1]? = some (.cells #[.int .i64 x0, .int .i64 x1, .int .u64 x2, .int .u64 x3, .slice x4 x5 x6, .slice x7 x8 x9] 33 (0, 0)) := (setAll_other (g := w.heap.size + 1 + 1) (by omega) [.int .i64 o0, .bool o1, .int .i64 o2, .int .u64 o3, .slice none 0 0] 0 (setAll (w.heap.size + 1) 0 [.int .i64 x0, .int .i64 x1, .int .u64 x2, .int .u64 x3, .slice x4 x5 x6, .slice x7 x8 x9] w5)).trans (setAll_all (vs := [.int .i64 x0, .int .i64 x1, .int .u64 x2, .int .u64 x3, .slice x4 x5 x6, .slice x7 x8 x9]) hA rfl)
  have hF : Ext w (setAll (w.heap.size + 1 + 1) 0 [.int .i64 o0, .bool o1, .int .i64 o2, .int .u64 o3, .slice none 0 0] (setAll (w.heap.size + 1) 0 [.int .i64 x0, .int .i64 x1, .int .u64 x2, .int .u64 x3, .slice x4 x5 x6, .slice x7 x8 x9] w5)) := setAll_ext (g := w.heap.size + 1 + 1) (setAll_ext (g := w.heap.size + 1) hW (by omega)) (by omega)
  simp only [setAll] at hPm hEm hF
  clear hA hQ hW
  go_wp2
  generalize (((((((((((w5.setCell ⟨w.heap.size + 1, 0, none⟩ (.int .i64 x0)).setCell ⟨w.heap.size + 1, 1, none⟩ (.int .i64 x1)).setCell ⟨w.heap.size + 1, 2, none⟩ (.int .u64 x2)).setCell ⟨w.heap.size + 1, 3, none⟩ (.int .u64 x3)).setCell ⟨w.heap.size + 1, 4, none⟩ (.slice x4 x5 x6)).setCell ⟨w.heap.size + 1, 5, none⟩ (.slice x7 x8 x9)).setCell ⟨w.heap.size + 1 + 1, 0, none⟩ (.int .i64 o0)).setCell ⟨w.heap.size + 1 + 1, 1, none⟩ (.bool o1)).setCell ⟨w.heap.size + 1 + 1, 2, none⟩ (.int .i64 o2)).setCell ⟨w.heap.size + 1 + 1, 3, none⟩ (.int .u64 o3)).setCell ⟨w.heap.size + 1 + 1, 4, none⟩ (.slice none 0 0)) = wf at *
  clear e0 e1 e2 e3 e4 e5 ef0 ef1 ef2 ef3 ef4 ef5 q0 q1 q2 q3 q4 qf0 qf1 qf2 qf3 qf4
  have e0 : wf.cell? ⟨w.heap.size + 1, 0, none⟩ = some (.int .i64 x0) := by simp [World.cell?, hEm]
  have e1 : wf.cell? ⟨w.heap.size + 1, 1, none⟩ = some (.int .i64 x1) := by simp [World.cell?, hEm]
  have e2 : wf.cell? ⟨w.heap.size + 1, 2, none⟩ = some (.int .u64 x2) := by simp [World.cell?, hEm]
  have e3 : wf.cell? ⟨w.heap.size + 1, 3, none⟩ = some (.int .u64 x3) := by simp [World.cell?, hEm]
  have e4 : wf.cell? ⟨w.heap.size + 1, 4, none⟩ = some (.slice x4 x5 x6) := by simp [World.cell?, hEm]
  have e5 : wf.cell? ⟨w.heap.size + 1, 5, none⟩ = some (.slice x7 x8 x9) := by simp [World.cell?, hEm]
  have q0 : wf.cell? ⟨w.heap.size + 1 + 1, 0, none⟩ = some (.int .i64 o0) := by simp [World.cell?, hPm]
  have q1 : wf.cell? ⟨w.heap.size + 1 + 1, 1, none⟩ = some (.bool o1) := by simp [World.cell?, hPm]
  have q2 : wf.cell? ⟨w.heap.size + 1 + 1, 2, none⟩ = some (.int .i64 o2) := by simp [World.cell?, hPm]
  have q3 : wf.cell? ⟨w.heap.size + 1 + 1, 3, none⟩ = some (.int .u64 o3) := by simp [World.cell?, hPm]
  have q4 : wf.cell? ⟨w.heap.size + 1 + 1, 4, none⟩ = some (.slice none 0 0) := by simp [World.cell?, hPm]
  refine bodyPost_ret (v := .tuple #[.agg #[.int .i64 x0, .int .i64 x1, .int .u64 x2, .int .u64 x3, .slice x4 x5 x6, .slice x7 x8 x9], .agg #[.int .i64 o0, .bool o1, .int .i64 o2, .int .u64 o3, .slice none 0 0], .bool b]) (by simp [results, Try.results18, go_sem, e0, e1, e2, e3, e4, e5, q0, q1, q2, q3, q4]) rfl ⟨by rw [HN.out, HFI.out], hF⟩
set_option maxRecDepth 100000 in
set_option maxHeartbeats 4000000 in
theorem rnx_adv (f : Nat) (t me u v d : Int) (ht1 : 0 ≤ t) (ht2 : t ≤ 64) (hm1 : 0 ≤ me) (hm2 : me ≤ 64)  (B : Option Addr) (n kc : Nat) (rs : List Res) (hf : rs.length < f) (w : World) (hlog : LogV w B n kc rs) (hU : GoodR rs) :
    Calls Try.prog 18 #[.int .i64 t, .int .i64 me, .agg #[.int .i64 19, .int .i64 u, .int .i64 v, .int .u64 d], .slice B n kc] w fun e w' => e = (nextT (epochT t me 19 u f) (rs.map Res.n)).fin ∧ Ext w w' := by
  obtain ⟨E, hE0⟩ : ∃ E, (nextT (epochT t me 19 u f) (rs.map Res.n)).fin = E := ⟨_, rfl⟩
  have HN := Lib.hid hE0
  clear hE0
  have HF := Lib.hid hf
  clear hf
  have hmk : ∀ W : World, (Instr.build 142 #[(0, .slice B n kc)]).run Try.prog W = .ok (.agg #[.slice B n kc, .int .i64 0, .bool false, .int .i64 0, .int .i64 0, .int .u64 0, .int .u64 0, .slice none 0 0, .slice none 0 0]) W := fun _ => by kernel_rfl
  have hmo : ∀ W : World, (Instr.build 37 #[]).run Try.prog W = .ok (.agg #[.int .i64 0, .bool false, .int .i64 0, .int .u64 0, .slice none 0 0]) W := fun _ => by kernel_rfl
  have hsep : ∀ a, B = some a → 0 < n → a.block ≠ w.heap.size + 1 + 1 + 1 := fun a ha hk => by subst ha; have := hlog.low hk; omega
  go_enter Try.func18, Try.ntmps18
  go_upto_region 3 with (fail)
  obtain ⟨hW, hP, hA, hQ, hC, hO⟩ := boxes5n w (.cells #[.int .i64 19, .int .i64 u, .int .i64 v, .int .u64 d] 24) (.cells #[.int .i64 0, .int .i64 0, .int .u64 0, .int .u64 0, .slice none 0 0, .slice none 0 0] 33) (.cells #[.int .i64 0, .bool false, .int .i64 0, .int .u64 0, .slice none 0 0] 37) (.cells #[.slice B n kc, .int .i64 0, .bool false, .int .i64 0, .int .i64 0, .int .u64 0, .int .u64 0, .slice none 0 0, .slice none 0 0] 142) (.cells #[.int .i64 0, .bool false, .int .i64 0, .int .u64 0, .slice none 0 0] 37)
  generalize ((((w.alloc (.cells #[.int .i64 19, .int .i64 u, .int .i64 v, .int .u64 d] 24)).alloc (.cells #[.int .i64 0, .int .i64 0, .int .u64 0, .int .u64 0, .slice none 0 0, .slice none 0 0] 33)).alloc (.cells #[.int .i64 0, .bool false, .int .i64 0, .int .u64 0, .slice none 0 0] 37)).alloc (.cells #[.slice B n kc, .int .i64 0, .bool false, .int .i64 0, .int .i64 0, .int .u64 0, .int .u64 0, .slice none 0 0, .slice none 0 0] 142)).alloc (.cells #[.int .i64 0, .bool false, .int .i64 0, .int .u64 0, .slice none 0 0] 37) = W at *
  have hC : CurAt W (w.heap.size + 1 + 1 + 1) B n kc ⟨0, false, Acc.zero⟩ := hC
  have hL := hlog.ext hW
  have p0 : W.cell? ⟨w.heap.size, 0, none⟩ = some (.int .i64 19) := by simp [World.cell?, hP]
  have p1 : W.cell? ⟨w.heap.size, 1, none⟩ = some (.int .i64 u) := by simp [World.cell?, hP]
  have p2 : W.cell? ⟨w.heap.size, 2, none⟩ = some (.int .i64 v) := by simp [World.cell?, hP]
  have p3 : W.cell? ⟨w.heap.size, 3, none⟩ = some (.int .u64 d) := by simp [World.cell?, hP]
  have hfed : (advT t f).run (stM Res.n) (rs.drop 0) ≠ .out := by
    intro h
    have h2 := (epochT_fed t me 19 u f rs.length HF.out).run (l := rs) Res.n
    rw [show epochT t me 19 u f = (advT t f).bind fun a => .ret ((fun b => ⟨0, b, 0, 0⟩) a) from rfl, PT.run_bind] at h2
    rw [List.drop_zero] at h
    rw [h] at h2
    exact h2 rfl
  go_wp2_with fail
  refine (radv2 t f ht1 ht2 (w.heap.size + 1 + 1 + 1) B n kc ⟨0, false, Acc.zero⟩ rs _ hL hsep hC (Nat.zero_le _) hU (fun _ => hfed)).mono ?_
  rintro e w1 ⟨s1, a, rfl, hC1, hx, hc⟩
  have hO1 := hx.heap hO (by omega)
  have hA1 := hx.heap hA (by omega)
  have hQ1 := hx.heap hQ (by omega)
  have hW1 := hx.ext hW (by omega)
  clear hC hO hA hQ hW hL p0 p1 p2 p3 hP hx hfed hsep hlog
  have hfin := cq_fin (advT t f) ((fun b => ⟨0, b, 0, 0⟩)) rs a s1 hc
  rw [show (advT t f).bind (fun a => .ret ((fun b => ⟨0, b, 0, 0⟩) a)) = epochT t me 19 u f from rfl, HN.out] at hfin
  clear hc
  have o0 : w1.cell? ⟨w.heap.size + 1 + 1 + 1 + 1, 0, none⟩ = some (.int .i64 0) := by simp [World.cell?, hO1]
  have of0 : w1.frozen? ⟨w.heap.size + 1 + 1 + 1 + 1, 0, none⟩ = false := by simp [World.frozen?, hO1]
  have o1 : w1.cell? ⟨w.heap.size + 1 + 1 + 1 + 1, 1, none⟩ = some (.bool false) := by simp [World.cell?, hO1]
  have of1 : w1.frozen? ⟨w.heap.size + 1 + 1 + 1 + 1, 1, none⟩ = false := by simp [World.frozen?, hO1]
  have o2 : w1.cell? ⟨w.heap.size + 1 + 1 + 1 + 1, 2, none⟩ = some (.int .i64 0) := by simp [World.cell?, hO1]
  have of2 : w1.frozen? ⟨w.heap.size + 1 + 1 + 1 + 1, 2, none⟩ = false := by simp [World.frozen?, hO1]
  have o3 : w1.cell? ⟨w.heap.size + 1 + 1 + 1 + 1, 3, none⟩ = some (.int .u64 0) := by simp [World.cell?, hO1]
  have of3 : w1.frozen? ⟨w.heap.size + 1 + 1 + 1 + 1, 3, none⟩ = false := by simp [World.frozen?, hO1]
  have o4 : w1.cell? ⟨w.heap.size + 1 + 1 + 1 + 1, 4, none⟩ = some (.slice none 0 0) := by simp [World.cell?, hO1]
  have of4 : w1.frozen? ⟨w.heap.size + 1 + 1 + 1 + 1, 4, none⟩ = false := by simp [World.frozen?, hO1]
  go_upto_region 15 with (fail)
  have hO2 : (w1.setCell ⟨w.heap.size + 1 + 1 + 1 + 1, 1, none⟩ (.bool a)).heap[w.heap.size + 1 + 1 + 1 + 1]? = some (.cells #[.int .i64 0, .bool a, .int .i64 0, .int .u64 0, .slice none 0 0] 37 (0, 0)) := heap_setCell_at hO1
  have hC2 : CurAt (w1.setCell ⟨w.heap.size + 1 + 1 + 1 + 1, 1, none⟩ (.bool a)) (w.heap.size + 1 + 1 + 1) B n kc _ := (Below.heap_setCell _ _ _ _ (by simp)).trans hC1
  have hA2 : (w1.setCell ⟨w.heap.size + 1 + 1 + 1 + 1, 1, none⟩ (.bool a)).heap[w.heap.size + 1]? = _ := (Below.heap_setCell _ _ _ _ (by simp <;> omega)).trans hA1
  have hQ2 : (w1.setCell ⟨w.heap.size + 1 + 1 + 1 + 1, 1, none⟩ (.bool a)).heap[w.heap.size + 1 + 1]? = _ := (Below.heap_setCell _ _ _ _ (by simp <;> omega)).trans hQ1
  have hW2 : Ext w (w1.setCell ⟨w.heap.size + 1 + 1 + 1 + 1, 1, none⟩ (.bool a)) := hW1.setCell (by simp; omega) _
  clear o0 o1 o2 o3 o4 of0 of1 of2 of3 of4 hO1 hC1 hA1 hQ1 hW1
  generalize w1.setCell ⟨w.heap.size + 1 + 1 + 1 + 1, 1, none⟩ (.bool a) = w2 at *
  have hC := hC2
  have hO := hO2
  have hA := hA2
  have hQ := hQ2
  have hW := hW2
  clear hC2 hO2 hA2 hQ2 hW2
  have o0 : w2.cell? ⟨w.heap.size + 1 + 1 + 1 + 1, 0, none⟩ = some (.int .i64 0) := by simp [World.cell?, hO]
  have o1 : w2.cell? ⟨w.heap.size + 1 + 1 + 1 + 1, 1, none⟩ = some (.bool a) := by simp [World.cell?, hO]
  have o2 : w2.cell? ⟨w.heap.size + 1 + 1 + 1 + 1, 2, none⟩ = some (.int .i64 0) := by simp [World.cell?, hO]
  have o3 : w2.cell? ⟨w.heap.size + 1 + 1 + 1 + 1, 3, none⟩ = some (.int .u64 0) := by simp [World.cell?, hO]
  have o4 : w2.cell? ⟨w.heap.size + 1 + 1 + 1 + 1, 4, none⟩ = some (.slice none 0 0) := by simp [World.cell?, hO]
  go_wp2_with fail
  refine (told_any (w.heap.size + 1 + 1 + 1) B n kc s1 ⟨0, a, 0, 0⟩ _ hC).mono ?_
  rintro e w5 ⟨rfl, hx5⟩
  clear o0 o1 o2 o3 o4
  replace hA := heap_ext hA hx5
  replace hQ := heap_ext hQ hx5
  replace hW := hW.trans hx5
  clear hx5 hO hC
  generalize (if s1.stop = true then s1.x else Acc.zero) = XA at *
  generalize (if s1.stop = true then (⟨0, false, 0, 0⟩ : OutN) else ⟨0, a, 0, 0⟩) = OA at *
  generalize (!s1.stop) = b at *
  obtain ⟨x0, x1, x2, x3, x4, x5, x6, x7, x8, x9⟩ := XA
  obtain ⟨o0, o1, o2, o3⟩ := OA
  simp only [Acc.cells, OutN.cells] at hfin ⊢
  have HFI := Lib.hid hfin
  clear hfin
  have e0 : w5.cell? ⟨w.heap.size + 1, 0, none⟩ = some (.int .i64 0) := by simp [World.cell?, hA]
  have ef0 : w5.frozen? ⟨w.heap.size + 1, 0, none⟩ = false := by simp [World.frozen?, hA]
  have e1 : w5.cell? ⟨w.heap.size + 1, 1, none⟩ = some (.int .i64 0) := by simp [World.cell?, hA]
  have ef1 : w5.frozen? ⟨w.heap.size + 1, 1, none⟩ = false := by simp [World.frozen?, hA]
  have e2 : w5.cell? ⟨w.heap.size + 1, 2, none⟩ = some (.int .u64 0) := by simp [World.cell?, hA]
  have ef2 : w5.frozen? ⟨w.heap.size + 1, 2, none⟩ = false := by simp [World.frozen?, hA]
  have e3 : w5.cell? ⟨w.heap.size + 1, 3, none⟩ = some (.int .u64 0) := by simp [World.cell?, hA]
  have ef3 : w5.frozen? ⟨w.heap.size + 1, 3, none⟩ = false := by simp [World.frozen?, hA]
  have e4 : w5.cell? ⟨w.heap.size + 1, 4, none⟩ = some (.slice none 0 0) := by simp [World.cell?, hA]
  have ef4 : w5.frozen? ⟨w.heap.size + 1, 4, none⟩ = false := by simp [World.frozen?, hA]
  have e5 : w5.cell? ⟨w.heap.size + 1, 5, none⟩ = some (.slice none 0 0) := by simp [World.cell?, hA]
  have ef5 : w5.frozen? ⟨w.heap.size + 1, 5, none⟩ = false := by simp [World.frozen?, hA]
  have q0 : w5.cell? ⟨w.heap.size + 1 + 1, 0, none⟩ = some (.int .i64 0) := by simp [World.cell?, hQ]
  have qf0 : w5.frozen? ⟨w.heap.size + 1 + 1, 0, none⟩ = false := by simp [World.frozen?, hQ]
  have q1 : w5.cell? ⟨w.heap.size + 1 + 1, 1, none⟩ = some (.bool false) := by simp [World.cell?, hQ]
  have qf1 : w5.frozen? ⟨w.heap.size + 1 + 1, 1, none⟩ = false := by simp [World.frozen?, hQ]
  have q2 : w5.cell? ⟨w.heap.size + 1 + 1, 2, none⟩ = some (.int .i64 0) := by simp [World.cell?, hQ]
  have qf2 : w5.frozen? ⟨w.heap.size + 1 + 1, 2, none⟩ = false := by simp [World.frozen?, hQ]
  have q3 : w5.cell? ⟨w.heap.size + 1 + 1, 3, none⟩ = some (.int .u64 0) := by simp [World.cell?, hQ]
  have qf3 : w5.frozen? ⟨w.heap.size + 1 + 1, 3, none⟩ = false := by simp [World.frozen?, hQ]
  have q4 : w5.cell? ⟨w.heap.size + 1 + 1, 4, none⟩ = some (.slice none 0 0) := by simp [World.cell?, hQ]
  have qf4 : w5.frozen? ⟨w.heap.size + 1 + 1, 4, none⟩ = false := by simp [World.frozen?, hQ]
  have hPm : (setAll (w.heap.size + 1 + 1) 0 [.int .i64 o0, .bool o1, .int .i64 o2, .int .u64 o3, .slice none 0 0] (setAll (w.heap.size + 1) 0 [.int .i64 x0, .int .i64 x1, .int .u64 x2, .int .u64 x3, .slice x4 x5 x6, .slice x7 x8 x9] w5)).heap[w.heap.size + 1 + 1]? = some (.cells #[.int .i64 o0, .bool o1, .int .i64 o2, .int .u64 o3, .slice none 0 0] 37 (0, 0)) := setAll_all (vs := [.int .i64 o0, .bool o1, .int .i64 o2, .int .u64 o3, .slice none 0 0]) ((setAll_other (g := w.heap.size + 1) (by omega) [.int .i64 x0, .int .i64 x1, .int .u64 x2, .int .u64 x3, .slice x4 x5 x6, .slice x7 x8 x9] 0 w5).trans hQ) rfl
  have hEm : (setAll (w.heap.size + 1 + 1) 0 [.int .i64 o0, .bool o1, .int .i64 o2, .int .u64 o3, .slice none 0 0] (setAll (w.heap.size + 1) 0 [.int .i64 x0, .int .i64 x1, .int .u64 x2, .int .u64 x3, .slice x4 x5 x6, .slice x7 x8 x9] w5)).heap[w.heap.size + 1]? = some (.cells #[.int .i64 x0, .int .i64 x1, .int .u64 x2, .int .u64 x3, .slice x4 x5 x6, .slice x7 x8 x9] 33 (0, 0)) := (setAll_other (g := w.heap.size + 1 + 1) (by omega) [.int .i64 o0, .bool o1, .int .i64 o2, .int .u64 o3, .slice none 0 0] 0 (setAll (w.heap.size + 1) 0 [.int .i64 x0, .int .i64 x1, .int .u64 x2, .int .u64 x3, .slice x4 x5 x6, .slice x7 x8 x9] w5)).trans (setAll_all (vs := [.int .i64 x0, .int .i64 x1, .int .u64 x2, .int .u64 x3, .slice x4 x5 x6, .slice x7 x8 x9]) hA rfl)
  have hF : Ext w (setAll (w.heap.size + 1 + 1) 0 [.int .i64 o0, .bool o1, .int .i64 o2, .int .u64 o3, .slice none 0 0] (setAll (w.heap.size + 1) 0 [.int .i64 x0, .int .i64 x1, .int .u64 x2, .int .u64 x3, .slice x4 x5 x6, .slice x7 x8 x9] w5)) := setAll_ext (g := w.heap.size + 1 + 1) (setAll_ext (g := w.heap.size + 1) hW (by omega)) (by omega)
  simp only [setAll] at hPm hEm hF
  clear hA hQ hW
  go_wp2
  generalize (((((((((((w5.setCell ⟨w.heap.size + 1, 0, none⟩ (.int .i64 x0)).setCell ⟨w.heap.size + 1, 1, none⟩ (.int .i64 x1)).setCell ⟨w.heap.size + 1, 2, none⟩ (.int .u64 x2)).setCell ⟨w.heap.size + 1, 3, none⟩ (.int .u64 x3)).setCell ⟨w.heap.size + 1, 4, none⟩ (.slice x4 x5 x6)).setCell ⟨w.heap.size + 1, 5, none⟩ (.slice x7 x8 x9)).setCell ⟨w.heap.size + 1 + 1, 0, none⟩ (.int .i64 o0)).setCell ⟨w.heap.size + 1 + 1, 1, none⟩ (.bool o1)).setCell ⟨w.heap.size + 1 + 1, 2, none⟩ (.int .i64 o2)).setCell ⟨w.heap.size + 1 + 1, 3, none⟩ (.int .u64 o3)).setCell ⟨w.heap.size + 1 + 1, 4, none⟩ (.slice none 0 0)) = wf at *
  clear e0 e1 e2 e3 e4 e5 ef0 ef1 ef2 ef3 ef4 ef5 q0 q1 q2 q3 q4 qf0 qf1 qf2 qf3 qf4
  have e0 : wf.cell? ⟨w.heap.size + 1, 0, none⟩ = some (.int .i64 x0) := by simp [World.cell?, hEm]
  have e1 : wf.cell? ⟨w.heap.size + 1, 1, none⟩ = some (.int .i64 x1) := by simp [World.cell?, hEm]
  have e2 : wf.cell? ⟨w.heap.size + 1, 2, none⟩ = some (.int .u64 x2) := by simp [World.cell?, hEm]
  have e3 : wf.cell? ⟨w.heap.size + 1, 3, none⟩ = some (.int .u64 x3) := by simp [World.cell?, hEm]
  have e4 : wf.cell? ⟨w.heap.size + 1, 4, none⟩ = some (.slice x4 x5 x6) := by simp [World.cell?, hEm]
  have e5 : wf.cell? ⟨w.heap.size + 1, 5, none⟩ = some (.slice x7 x8 x9) := by simp [World.cell?, hEm]
  have q0 : wf.cell? ⟨w.heap.size + 1 + 1, 0, none⟩ = some (.int .i64 o0) := by simp [World.cell?, hPm]
  have q1 : wf.cell? ⟨w.heap.size + 1 + 1, 1, none⟩ = some (.bool o1) := by simp [World.cell?, hPm]
  have q2 : wf.cell? ⟨w.heap.size + 1 + 1, 2, none⟩ = some (.int .i64 o2) := by simp [World.cell?, hPm]
  have q3 : wf.cell? ⟨w.heap.size + 1 + 1, 3, none⟩ = some (.int .u64 o3) := by simp [World.cell?, hPm]
  have q4 : wf.cell? ⟨w.heap.size + 1 + 1, 4, none⟩ = some (.slice none 0 0) := by simp [World.cell?, hPm]
  refine bodyPost_ret (v := .tuple #[.agg #[.int .i64 x0, .int .i64 x1, .int .u64 x2, .int .u64 x3, .slice x4 x5 x6, .slice x7 x8 x9], .agg #[.int .i64 o0, .bool o1, .int .i64 o2, .int .u64 o3, .slice none 0 0], .bool b]) (by simp [results, Try.results18, go_sem, e0, e1, e2, e3, e4, e5, q0, q1, q2, q3, q4]) rfl ⟨by rw [HN.out, HFI.out], hF⟩
set_option maxRecDepth 100000 in
set_option maxHeartbeats 4000000 in
theorem rnx_no (f : Nat) (t me k u v d : Int) (ht1 : 0 ≤ t) (ht2 : t ≤ 64) (hm1 : 0 ≤ me) (hm2 : me ≤ 64) (k3 : ¬ k = 3) (k4 : ¬ k = 4) (k5 : ¬ k = 5) (k6 : ¬ k = 6) (k19 : ¬ k = 19) (B : Option Addr) (n kc : Nat) (rs : List Res) (hf : rs.length < f) (w : World) (hlog : LogV w B n kc rs) (hU : GoodR rs) :
    Calls Try.prog 18 #[.int .i64 t, .int .i64 me, .agg #[.int .i64 k, .int .i64 u, .int .i64 v, .int .u64 d], .slice B n kc] w fun e w' => e = (nextT (epochT t me k u f) (rs.map Res.n)).fin ∧ Ext w w' := by
  obtain ⟨E, hE0⟩ : ∃ E, (nextT (epochT t me k u f) (rs.map Res.n)).fin = E := ⟨_, rfl⟩
  have HN := Lib.hid hE0
  clear hE0
  have HF := Lib.hid hf
  clear hf
  have hmk : ∀ W : World, (Instr.build 142 #[(0, .slice B n kc)]).run Try.prog W = .ok (.agg #[.slice B n kc, .int .i64 0, .bool false, .int .i64 0, .int .i64 0, .int .u64 0, .int .u64 0, .slice none 0 0, .slice none 0 0]) W := fun _ => by kernel_rfl
  have hmo : ∀ W : World, (Instr.build 37 #[]).run Try.prog W = .ok (.agg #[.int .i64 0, .bool false, .int .i64 0, .int .u64 0, .slice none 0 0]) W := fun _ => by kernel_rfl
  have hsep : ∀ a, B = some a → 0 < n → a.block ≠ w.heap.size + 1 + 1 + 1 := fun a ha hk => by subst ha; have := hlog.low hk; omega
  go_enter Try.func18, Try.ntmps18
  go_upto_region 3 with (fail)
  obtain ⟨hW, hP, hA, hQ, hC, hO⟩ := boxes5n w (.cells #[.int .i64 k, .int .i64 u, .int .i64 v, .int .u64 d] 24) (.cells #[.int .i64 0, .int .i64 0, .int .u64 0, .int .u64 0, .slice none 0 0, .slice none 0 0] 33) (.cells #[.int .i64 0, .bool false, .int .i64 0, .int .u64 0, .slice none 0 0] 37) (.cells #[.slice B n kc, .int .i64 0, .bool false, .int .i64 0, .int .i64 0, .int .u64 0, .int .u64 0, .slice none 0 0, .slice none 0 0] 142) (.cells #[.int .i64 0, .bool false, .int .i64 0, .int .u64 0, .slice none 0 0] 37)
  generalize ((((w.alloc (.cells #[.int .i64 k, .int .i64 u, .int .i64 v, .int .u64 d] 24)).alloc (.cells #[.int .i64 0, .int .i64 0, .int .u64 0, .int .u64 0, .slice none 0 0, .slice none 0 0] 33)).alloc (.cells #[.int .i64 0, .bool false, .int .i64 0, .int .u64 0, .slice none 0 0] 37)).alloc (.cells #[.slice B n kc, .int .i64 0, .bool false, .int .i64 0, .int .i64 0, .int .u64 0, .int .u64 0, .slice none 0 0, .slice none 0 0] 142)).alloc (.cells #[.int .i64 0, .bool false, .int .i64 0, .int .u64 0, .slice none 0 0] 37) = W at *
  have hC : CurAt W (w.heap.size + 1 + 1 + 1) B n kc ⟨0, false, Acc.zero⟩ := hC
  have hL := hlog.ext hW
  have p0 : W.cell? ⟨w.heap.size, 0, none⟩ = some (.int .i64 k) := by simp [World.cell?, hP]
  have p1 : W.cell? ⟨w.heap.size, 1, none⟩ = some (.int .i64 u) := by simp [World.cell?, hP]
  have p2 : W.cell? ⟨w.heap.size, 2, none⟩ = some (.int .i64 v) := by simp [World.cell?, hP]
  have p3 : W.cell? ⟨w.heap.size, 3, none⟩ = some (.int .u64 d) := by simp [World.cell?, hP]
  have hn : epochT t me k u f = (PT.ret (0 : Int)).bind fun _ => .ret ⟨1, false, 0, 0⟩ := by simp [epochT, k3, k4, k5, k6, k19, PT.bind]
  rw [hn] at HN
  have b3 : (k == 3) = false := by simp [k3]
  have b4 : (k == 4) = false := by simp [k4]
  have b5 : (k == 5) = false := by simp [k5]
  have b6 : (k == 6) = false := by simp [k6]
  have b19 : (k == 19) = false := by simp [k19]
  have hfin := cq_fin (PT.ret (0 : Int)) (fun _ => ⟨1, false, 0, 0⟩) rs 0 ⟨0, false, Acc.zero⟩ (.inl ⟨rfl, rfl, Nat.zero_le _, rfl, rfl⟩)
  rw [HN.out] at hfin
  rw [← hn] at HN
  clear k3 k4 k5 k6 k19 hn hL hsep hlog
  have hC1 := hC
  have hO1 := hO
  have hA1 := hA
  have hQ1 := hQ
  have hW1 := hW
  clear hC hO hA hQ hW
  obtain ⟨s1, hs1⟩ : ∃ s1 : Cu, s1 = ⟨0, false, Acc.zero⟩ := ⟨_, rfl⟩
  rw [← hs1] at hfin hC1
  clear hs1
  obtain ⟨w1, hw1⟩ : ∃ w1, w1 = W := ⟨_, rfl⟩
  subst hw1
  have o0 : w1.cell? ⟨w.heap.size + 1 + 1 + 1 + 1, 0, none⟩ = some (.int .i64 0) := by simp [World.cell?, hO1]
  have of0 : w1.frozen? ⟨w.heap.size + 1 + 1 + 1 + 1, 0, none⟩ = false := by simp [World.frozen?, hO1]
  have o1 : w1.cell? ⟨w.heap.size + 1 + 1 + 1 + 1, 1, none⟩ = some (.bool false) := by simp [World.cell?, hO1]
  have of1 : w1.frozen? ⟨w.heap.size + 1 + 1 + 1 + 1, 1, none⟩ = false := by simp [World.frozen?, hO1]
  have o2 : w1.cell? ⟨w.heap.size + 1 + 1 + 1 + 1, 2, none⟩ = some (.int .i64 0) := by simp [World.cell?, hO1]
  have of2 : w1.frozen? ⟨w.heap.size + 1 + 1 + 1 + 1, 2, none⟩ = false := by simp [World.frozen?, hO1]
  have o3 : w1.cell? ⟨w.heap.size + 1 + 1 + 1 + 1, 3, none⟩ = some (.int .u64 0) := by simp [World.cell?, hO1]
  have of3 : w1.frozen? ⟨w.heap.size + 1 + 1 + 1 + 1, 3, none⟩ = false := by simp [World.frozen?, hO1]
  have o4 : w1.cell? ⟨w.heap.size + 1 + 1 + 1 + 1, 4, none⟩ = some (.slice none 0 0) := by simp [World.cell?, hO1]
  have of4 : w1.frozen? ⟨w.heap.size + 1 + 1 + 1 + 1, 4, none⟩ = false := by simp [World.frozen?, hO1]
  go_upto_region 15 with (fail)
  have hO2 : (w1.setCell ⟨w.heap.size + 1 + 1 + 1 + 1, 0, none⟩ (.int .i64 1)).heap[w.heap.size + 1 + 1 + 1 + 1]? = some (.cells #[.int .i64 1, .bool false, .int .i64 0, .int .u64 0, .slice none 0 0] 37 (0, 0)) := heap_setCell_at hO1
  have hC2 : CurAt (w1.setCell ⟨w.heap.size + 1 + 1 + 1 + 1, 0, none⟩ (.int .i64 1)) (w.heap.size + 1 + 1 + 1) B n kc _ := (Below.heap_setCell _ _ _ _ (by simp)).trans hC1
  have hA2 : (w1.setCell ⟨w.heap.size + 1 + 1 + 1 + 1, 0, none⟩ (.int .i64 1)).heap[w.heap.size + 1]? = _ := (Below.heap_setCell _ _ _ _ (by simp <;> omega)).trans hA1
  have hQ2 : (w1.setCell ⟨w.heap.size + 1 + 1 + 1 + 1, 0, none⟩ (.int .i64 1)).heap[w.heap.size + 1 + 1]? = _ := (Below.heap_setCell _ _ _ _ (by simp <;> omega)).trans hQ1
  have hW2 : Ext w (w1.setCell ⟨w.heap.size + 1 + 1 + 1 + 1, 0, none⟩ (.int .i64 1)) := hW1.setCell (by simp; omega) _
  clear o0 o1 o2 o3 o4 of0 of1 of2 of3 of4 p0 p1 p2 p3 hP b3 b4 b5 b6 b19 hO1 hC1 hA1 hQ1 hW1
  generalize w1.setCell ⟨w.heap.size + 1 + 1 + 1 + 1, 0, none⟩ (.int .i64 1) = w2 at *
  have hC := hC2
  have hO := hO2
  have hA := hA2
  have hQ := hQ2
  have hW := hW2
  clear hC2 hO2 hA2 hQ2 hW2
  have o0 : w2.cell? ⟨w.heap.size + 1 + 1 + 1 + 1, 0, none⟩ = some (.int .i64 1) := by simp [World.cell?, hO]
  have o1 : w2.cell? ⟨w.heap.size + 1 + 1 + 1 + 1, 1, none⟩ = some (.bool false) := by simp [World.cell?, hO]
  have o2 : w2.cell? ⟨w.heap.size + 1 + 1 + 1 + 1, 2, none⟩ = some (.int .i64 0) := by simp [World.cell?, hO]
  have o3 : w2.cell? ⟨w.heap.size + 1 + 1 + 1 + 1, 3, none⟩ = some (.int .u64 0) := by simp [World.cell?, hO]
  have o4 : w2.cell? ⟨w.heap.size + 1 + 1 + 1 + 1, 4, none⟩ = some (.slice none 0 0) := by simp [World.cell?, hO]
  go_wp2_with fail
  refine (told_any (w.heap.size + 1 + 1 + 1) B n kc s1 ⟨1, false, 0, 0⟩ _ hC).mono ?_
  rintro e w5 ⟨rfl, hx5⟩
  clear o0 o1 o2 o3 o4
  replace hA := heap_ext hA hx5
  replace hQ := heap_ext hQ hx5
  replace hW := hW.trans hx5
  clear hx5 hO hC
  generalize (if s1.stop = true then s1.x else Acc.zero) = XA at *
  generalize (if s1.stop = true then (⟨0, false, 0, 0⟩ : OutN) else ⟨1, false, 0, 0⟩) = OA at *
  generalize (!s1.stop) = b at *
  obtain ⟨x0, x1, x2, x3, x4, x5, x6, x7, x8, x9⟩ := XA
  obtain ⟨o0, o1, o2, o3⟩ := OA
  simp only [Acc.cells, OutN.cells] at hfin ⊢
  have HFI := Lib.hid hfin
  clear hfin
  have e0 : w5.cell? ⟨w.heap.size + 1, 0, none⟩ = some (.int .i64 0) := by simp [World.cell?, hA]
  have ef0 : w5.frozen? ⟨w.heap.size + 1, 0, none⟩ = false := by simp [World.frozen?, hA]
  have e1 : w5.cell? ⟨w.heap.size + 1, 1, none⟩ = some (.int .i64 0) := by simp [World.cell?, hA]
  have ef1 : w5.frozen? ⟨w.heap.size + 1, 1, none⟩ = false := by simp [World.frozen?, hA]
  have e2 : w5.cell? ⟨w.heap.size + 1, 2, none⟩ = some (.int .u64 0) := by simp [World.cell?, hA]
  have ef2 : w5.frozen? ⟨w.heap.size + 1, 2, none⟩ = false := by simp [World.frozen?, hA]
  have e3 : w5.cell? ⟨w.heap.size + 1, 3, none⟩ = some (.int .u64 0) := by simp [World.cell?, hA]
  have ef3 : w5.frozen? ⟨w.heap.size + 1, 3, none⟩ = false := by simp [World.frozen?, hA]
  have e4 : w5.cell? ⟨w.heap.size + 1, 4, none⟩ = some (.slice none 0 0) := by simp [World.cell?, hA]
  have ef4 : w5.frozen? ⟨w.heap.size + 1, 4, none⟩ = false := by simp [World.frozen?, hA]
  have e5 : w5.cell? ⟨w.heap.size + 1, 5, none⟩ = some (.slice none 0 0) := by simp [World.cell?, hA]
  have ef5 : w5.frozen? ⟨w.heap.size + 1, 5, none⟩ = false := by simp [World.frozen?, hA]
  have q0 : w5.cell? ⟨w.heap.size + 1 + 1, 0, none⟩ = some (.int .i64 0) := by simp [World.cell?, hQ]
  have qf0 : w5.frozen? ⟨w.heap.size + 1 + 1, 0, none⟩ = false := by simp [World.frozen?, hQ]
  have q1 : w5.cell? ⟨w.heap.size + 1 + 1, 1, none⟩ = some (.bool false) := by simp [World.cell?, hQ]
  have qf1 : w5.frozen? ⟨w.heap.size + 1 + 1, 1, none⟩ = false := by simp [World.frozen?, hQ]
  have q2 : w5.cell? ⟨w.heap.size + 1 + 1, 2, none⟩ = some (.int .i64 0) := by simp [World.cell?, hQ]
  have qf2 : w5.frozen? ⟨w.heap.size + 1 + 1, 2, none⟩ = false := by simp [World.frozen?, hQ]
  have q3 : w5.cell? ⟨w.heap.size + 1 + 1, 3, none⟩ = some (.int .u64 0) := by simp [World.cell?, hQ]
  have qf3 : w5.frozen? ⟨w.heap.size + 1 + 1, 3, none⟩ = false := by simp [World.frozen?, hQ]
  have q4 : w5.cell? ⟨w.heap.size + 1 + 1, 4, none⟩ = some (.slice none 0 0) := by simp [World.cell?, hQ]
  have qf4 : w5.frozen? ⟨w.heap.size + 1 + 1, 4, none⟩ = false := by simp [World.frozen?, hQ]
  have hPm : (setAll (w.heap.size + 1 + 1) 0 [.int .i64 o0, .bool o1, .int .i64 o2, .int .u64 o3, .slice none 0 0] (setAll (w.heap.size + 1) 0 [.int .i64 x0, .int .i64 x1, .int .u64 x2, .int .u64 x3, .slice x4 x5 x6, .slice x7 x8 x9] w5)).heap[w.heap.size + 1 + 1]? = some (.cells #[.int .i64 o0, .bool o1, .int .i64 o2, .int .u64 o3, .slice none 0 0] 37 (0, 0)) := setAll_all (vs := [.int .i64 o0, .bool o1, .int .i64 o2, .int .u64 o3, .slice none 0 0]) ((setAll_other (g := w.heap.size + 1) (by omega) [.int .i64 x0, .int .i64 x1, .int .u64 x2, .int .u64 x3, .slice x4 x5 x6, .slice x7 x8 x9] 0 w5).trans hQ) rfl
  have hEm : (setAll (w.heap.size + 1 + 1) 0 [.int .i64 o0, .bool o1, .int .i64 o2, .int .u64 o3, .slice none 0 0] (setAll (w.heap.size + 1) 0 [.int .i64 x0, .int .i64 x1, .int .u64 x2, .int .u64 x3, .slice x4 x5 x6, .slice x7 x8 x9] w5)).heap[w.heap.size + 1]? = some (.cells #[.int .i64 x0, .int .i64 x1, .int .u64 x2, .int .u64 x3, .slice x4 x5 x6, .slice x7 x8 x9] 33 (0, 0)) := (setAll_other (g := w.heap.size + 1 + 1) (by omega) [.int .i64 o0, .bool o1, .int .i64 o2, .int .u64 o3, .slice none 0 0] 0 (setAll (w.heap.size + 1) 0 [.int .i64 x0, .int .i64 x1, .int .u64 x2, .int .u64 x3, .slice x4 x5 x6, .slice x7 x8 x9] w5)).trans (setAll_all (vs := [.int .i64 x0, .int .i64 x1, .int .u64 x2, .int .u64 x3, .slice x4 x5 x6, .slice x7 x8 x9]) hA rfl)
  have hF : Ext w (setAll (w.heap.size + 1 + 1) 0 [.int .i64 o0, .bool o1, .int .i64 o2, .int .u64 o3, .slice none 0 0] (setAll (w.heap.size + 1) 0 [.int .i64 x0, .int .i64 x1, .int .u64 x2, .int .u64 x3, .slice x4 x5 x6, .slice x7 x8 x9] w5)) := setAll_ext (g := w.heap.size + 1 + 1) (setAll_ext (g := w.heap.size + 1) hW (by omega)) (by omega)
  simp only [setAll] at hPm hEm hF
  clear hA hQ hW
  go_wp2
  generalize (((((((((((w5.setCell ⟨w.heap.size + 1, 0, none⟩ (.int .i64 x0)).setCell ⟨w.heap.size + 1, 1, none⟩ (.int .i64 x1)).setCell ⟨w.heap.size + 1, 2, none⟩ (.int .u64 x2)).setCell ⟨w.heap.size + 1, 3, none⟩ (.int .u64 x3)).setCell ⟨w.heap.size + 1, 4, none⟩ (.slice x4 x5 x6)).setCell ⟨w.heap.size + 1, 5, none⟩ (.slice x7 x8 x9)).setCell ⟨w.heap.size + 1 + 1, 0, none⟩ (.int .i64 o0)).setCell ⟨w.heap.size + 1 + 1, 1, none⟩ (.bool o1)).setCell ⟨w.heap.size + 1 + 1, 2, none⟩ (.int .i64 o2)).setCell ⟨w.heap.size + 1 + 1, 3, none⟩ (.int .u64 o3)).setCell ⟨w.heap.size + 1 + 1, 4, none⟩ (.slice none 0 0)) = wf at *
  clear e0 e1 e2 e3 e4 e5 ef0 ef1 ef2 ef3 ef4 ef5 q0 q1 q2 q3 q4 qf0 qf1 qf2 qf3 qf4
  have e0 : wf.cell? ⟨w.heap.size + 1, 0, none⟩ = some (.int .i64 x0) := by simp [World.cell?, hEm]
  have e1 : wf.cell? ⟨w.heap.size + 1, 1, none⟩ = some (.int .i64 x1) := by simp [World.cell?, hEm]
  have e2 : wf.cell? ⟨w.heap.size + 1, 2, none⟩ = some (.int .u64 x2) := by simp [World.cell?, hEm]
  have e3 : wf.cell? ⟨w.heap.size + 1, 3, none⟩ = some (.int .u64 x3) := by simp [World.cell?, hEm]
  have e4 : wf.cell? ⟨w.heap.size + 1, 4, none⟩ = some (.slice x4 x5 x6) := by simp [World.cell?, hEm]
  have e5 : wf.cell? ⟨w.heap.size + 1, 5, none⟩ = some (.slice x7 x8 x9) := by simp [World.cell?, hEm]
  have q0 : wf.cell? ⟨w.heap.size + 1 + 1, 0, none⟩ = some (.int .i64 o0) := by simp [World.cell?, hPm]
  have q1 : wf.cell? ⟨w.heap.size + 1 + 1, 1, none⟩ = some (.bool o1) := by simp [World.cell?, hPm]
  have q2 : wf.cell? ⟨w.heap.size + 1 + 1, 2, none⟩ = some (.int .i64 o2) := by simp [World.cell?, hPm]
  have q3 : wf.cell? ⟨w.heap.size + 1 + 1, 3, none⟩ = some (.int .u64 o3) := by simp [World.cell?, hPm]
  have q4 : wf.cell? ⟨w.heap.size + 1 + 1, 4, none⟩ = some (.slice none 0 0) := by simp [World.cell?, hPm]
  refine bodyPost_ret (v := .tuple #[.agg #[.int .i64 x0, .int .i64 x1, .int .u64 x2, .int .u64 x3, .slice x4 x5 x6, .slice x7 x8 x9], .agg #[.int .i64 o0, .bool o1, .int .i64 o2, .int .u64 o3, .slice none 0 0], .bool b]) (by simp [results, Try.results18, go_sem, e0, e1, e2, e3, e4, e5, q0, q1, q2, q3, q4]) rfl ⟨by rw [HN.out, HFI.out], hF⟩
theorem rnext13_any (f : Nat) (t me k u v d : Int) (ht1 : 0 ≤ t) (ht2 : t ≤ 64) (hm1 : 0 ≤ me) (hm2 : me ≤ 64) (hu : k = 5 → 0 ≤ u ∧ u < 1048576) (B : Option Addr) (n kc : Nat) (rs : List Res) (hf : rs.length < f) (w : World) (hlog : LogV w B n kc rs) (hU : GoodR rs) :
    Calls Try.prog 18 #[.int .i64 t, .int .i64 me, .agg #[.int .i64 k, .int .i64 u, .int .i64 v, .int .u64 d], .slice B n kc] w fun e w' => e = (nextT (epochT t me k u f) (rs.map Res.n)).fin ∧ Ext w w' := by
  by_cases k3 : k = 3
  · subst k3; exact rnx_pin f t me u v d ht1 ht2 hm1 hm2 B n kc rs hf w hlog hU
  by_cases k4 : k = 4
  · subst k4; exact rnx_unpin f t me u v d ht1 ht2 hm1 hm2 B n kc rs hf w hlog hU
  by_cases k5 : k = 5
  · subst k5; exact rnx_ret f t me u v d ht1 ht2 hm1 hm2 (hu rfl).1 (hu rfl).2 B n kc rs hf w hlog hU
  by_cases k6 : k = 6
  · subst k6; exact rnx_alloc f t me u v d ht1 ht2 hm1 hm2 B n kc rs hf w hlog hU
  by_cases k19 : k = 19
  · subst k19; exact rnx_adv f t me u v d ht1 ht2 hm1 hm2 B n kc rs hf w hlog hU
  exact rnx_no f t me k u v d ht1 ht2 hm1 hm2 k3 k4 k5 k6 k19 B n kc rs hf w hlog hU
end Go.Proofs.Ytjokaginolpbeaa

namespace Go.Proofs.Ytjokaginolpbeaa
open Go.ChangeShapes Go.WideShapes Go.ChangeAt Go.RowKit

/-! Rows of accesses, and logs, that came in. -/
theorem cellsResult : Try.prog.cellsOf 59 = 3 := by kernel_rfl
/-- a log that came in, however long -/
structure LogP (w : World) (A : Option Addr) (n c : Nat) (rs : List Res) : Prop where
  len : rs.length = n
  cap : n ≤ maxLen
  le : n ≤ c
  nil : A = none → c = 0
  at_ : ∀ j r, rs[j]? = some r → ∃ a, A = some a ∧ ResAt w a j r
theorem LogP.log {w : World} {A : Option Addr} {n c : Nat} {rs : List Res} (h : LogP w A n c rs) (hn : n ≤ 65536) : LogV w A n c rs := ⟨h.len, hn, h.at_⟩
section
variable {H : Type} {enc : TypeId × Value → H} {w : World} {base : Nat}
end
end Go.Proofs.Ytjokaginolpbeaa

namespace Go.Proofs.Ytjokaginolpbeaa
open Go.ChangeShapes Go.WideShapes Go.ChangeAt Go.RowKit

/-! What came in for PoolNext, EpochNext. -/
section
variable {H : Type} {enc : TypeId × Value → H} {w : World} {base : Nat}
set_option maxRecDepth 100000 in
theorem open_resU {fuel : Nat} {cs : List Value} {x : DataW H × List MemPlace} (hl : cs.length = 3) (h : DataW.trod enc Try.prog w base (fun _ => true) true fuel 59 cs = some x) :
    ∃ r : Res, cs = [.int .u64 r.n, .slice r.A r.k r.c, .bool r.fail] ∧ U64 r.n := by
  obtain ⟨x0, x1, x2, rfl⟩ := list_three hl
  obtain ⟨k, hg⟩ := open_inner Try.underlying59 h
  obtain ⟨_, s0⟩ := hg 0 _ rfl
  obtain ⟨_, s1⟩ := hg 1 _ rfl
  obtain ⟨_, s2⟩ := hg 2 _ rfl
  obtain ⟨i0, e0, _, w0⟩ := DataW.trod_int Try.underlying22 s0
  obtain ⟨D, dk, dc, d, e1, hD⟩ := open_bytes s1
  obtain ⟨b, e2, _⟩ := DataW.trod_bool Try.underlying4 s2
  simp [cellsBytes, cellsU64S, cellsBoolS] at e0 e1 e2
  subst e0 e1 e2
  exact ⟨⟨i0, D, dk, dc, b⟩, rfl, wf_u64 w0⟩
set_option maxRecDepth 100000 in
theorem open_op {fuel : Nat} {cs : List Value} {x : DataW H × List MemPlace} (hl : cs.length = 4) (h : DataW.trod enc Try.prog w base (fun _ => true) true fuel 24 cs = some x) :
    ∃ k u v d : Int, cs = [.int .i64 k, .int .i64 u, .int .i64 v, .int .u64 d] := by
  match cs, hl with
  | [x0, x1, x2, x3], _ =>
  obtain ⟨k, hg⟩ := open_inner Try.underlying24 h
  obtain ⟨_, s0⟩ := hg 0 _ rfl
  obtain ⟨_, s1⟩ := hg 1 _ rfl
  obtain ⟨_, s2⟩ := hg 2 _ rfl
  obtain ⟨_, s3⟩ := hg 3 _ rfl
  obtain ⟨i0, e0, _, w0⟩ := DataW.trod_int Try.underlying3 s0
  obtain ⟨i1, e1, _, w1⟩ := DataW.trod_int Try.underlying3 s1
  obtain ⟨i2, e2, _, w2⟩ := DataW.trod_int Try.underlying3 s2
  obtain ⟨i3, e3, _, w3⟩ := DataW.trod_int Try.underlying22 s3
  simp [cellsIntS, cellsU64S] at e0 e1 e2 e3
  subst e0 e1 e2 e3
  exact ⟨i0, i1, i2, i3, rfl⟩
set_option maxRecDepth 100000 in
theorem open_logU {fuel : Nat} {cs : List Value} {x : DataW H × List MemPlace} (hf : DataW.trod enc Try.prog w base (fun _ => true) true fuel 25 cs = some x) :
    ∃ A n c rs, cs = [.slice A n c] ∧ LogP w A n c rs ∧ GoodR rs := by
  obtain ⟨A, n, c, m, e, hn, hc, hA, hi⟩ := open_slice Try.underlying25 hf
  rw [cellsResult] at hi
  obtain ⟨l, hl, hp⟩ := list_choose (n := n) (p := fun i r => (∃ a, A = some a ∧ ResAt w a i r) ∧ U64 r.n) (fun i hlt => by
    obtain ⟨a, l, y, ha, hlen, hcell, ht⟩ := hi i hlt
    obtain ⟨r, e, hu⟩ := open_resU hlen ht
    subst e
    refine ⟨r, ⟨a, ha, ?_, ?_, ?_⟩, hu⟩
    · simpa using hcell 0 _ rfl
    · rw [addr_add_add]; exact hcell 1 _ rfl
    · rw [addr_add_add]; exact hcell 2 _ rfl)
  refine ⟨A, n, c, l, e, ⟨hl, Nat.le_trans hn hc, hn, hA, fun j r hj => (hp j r hj).1⟩, fun r hr => ?_⟩
  obtain ⟨j, hj⟩ := List.getElem?_of_mem hr
  exact (hp j r hj).2
end
set_option maxRecDepth 100000 in
theorem dims_any (t c : Int) (w : World) : Calls Try.prog 16 #[.int .i64 t, .int .i64 c] w fun e w' => e = .returned (.bool (mayB t c)) ∧ w = w' := by
  rcases (Decidable.em (1 ≤ t)) with h1 | h1 <;> rcases (Decidable.em (t ≤ 64)) with h2 | h2 <;> rcases (Decidable.em (0 ≤ c)) with h3 | h3 <;> rcases (Decidable.em (c ≤ 65536)) with h4 | h4 <;>
  (go_enter Try.func16, Try.ntmps16
   go_wp2
   go_ret
   exact ⟨by simp [mayB, h1, h2, h3, h4], rfl⟩)
/-- what is asked next, or answered, in letters -/
theorem next_form {P : List Int → NextE} {ns : List Int} (hP : ∀ x, P ns = .stop x → ∃ a : Ask, x = a.acc ∧ a.Ok) : ∃ (a0 a1 a2 a3 o0 : Int) (o1 : Bool) (o2 o3 : Int) (b : Bool), (P ns).fin = .returned (.tuple #[.agg #[.int .i64 a0, .int .i64 a1, .int .u64 a2, .int .u64 a3, .slice none 0 0, .slice none 0 0], .agg #[.int .i64 o0, .bool o1, .int .i64 o2, .int .u64 o3, .slice none 0 0], .bool b]) := by
  cases h : P ns with
  | done o => exact ⟨0, 0, 0, 0, o.err, o.is, o.n, o.w, true, rfl⟩
  | stop x =>
    obtain ⟨a, rfl, -⟩ := hP x h
    exact ⟨a.kind, a.cell, a.a, a.b, 0, false, 0, 0, false, rfl⟩
theorem accok_none (w : World) (x0 x1 x2 x3 : Int) : AccOK w ⟨x0, x1, x2, x3, none, 0, 0, none, 0, 0⟩ := ⟨⟨[], bytes_nil w⟩, ⟨[], words_nil w⟩⟩
end Go.Proofs.Ytjokaginolpbeaa
