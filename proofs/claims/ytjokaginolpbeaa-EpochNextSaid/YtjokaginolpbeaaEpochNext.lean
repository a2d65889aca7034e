/- Proved: the law EpochNext (what an operation on epochs asks next, or answers, is as the document says, whatever it was told) returns true at every input and turns none of its arguments. No condition. -/
import Derived.Test.YtjokaginolpbeaaEpochNextPartG
import Derived.Test.YtjokaginolpbeaaEpochNextPartH
import Derived.Test.YtjokaginolpbeaaEpochNextPartE
namespace Go.Proofs.Ytjokaginolpbeaa
open Go.ChangeShapes Go.WideShapes Go.ChangeAt Go.RowKit

set_option maxRecDepth 100000 in
set_option maxHeartbeats 8000000 in
theorem nextlaw_walk (t c me k u v d : Int) (B : Option Addr) (n kc : Nat) (rs : List Res) (w : World) (hB : LogP w B n kc rs) (hG : GoodR rs) :
    Calls Try.prog 3 #[.agg #[.int .i64 t, .int .i64 c, .int .i64 me, .int .i64 k, .int .i64 u, .int .i64 v, .int .u64 d, .slice B n kc]] w fun e w' => e = .returned (.bool true) ∧ Ext w w' := by
  have hncap := hB.cap
  simp only [maxLen] at hncap
  have hW : Ext w (w.alloc (.cells #[.int .i64 t, .int .i64 c, .int .i64 me, .int .i64 k, .int .i64 u, .int .i64 v, .int .u64 d, .slice B n kc] 27)) := (Below.refl _ w).alloc (Nat.le_refl _) _
  have hI := heap_alloc_new w (.cells #[.int .i64 t, .int .i64 c, .int .i64 me, .int .i64 k, .int .i64 u, .int .i64 v, .int .u64 d, .slice B n kc] 27)
  go_enter Try.func3, Try.ntmps3
  go_upto_region 1 with (fail)
  generalize w.alloc (.cells #[.int .i64 t, .int .i64 c, .int .i64 me, .int .i64 k, .int .i64 u, .int .i64 v, .int .u64 d, .slice B n kc] 27) = W0 at *
  generalize w.heap.size = g0 at *
  have i0 : W0.cell? ⟨g0, 0, none⟩ = some (.int .i64 t) := by simp [World.cell?, hI]
  have i1 : W0.cell? ⟨g0, 1, none⟩ = some (.int .i64 c) := by simp [World.cell?, hI]
  have i2 : W0.cell? ⟨g0, 2, none⟩ = some (.int .i64 me) := by simp [World.cell?, hI]
  have i3 : W0.cell? ⟨g0, 3, none⟩ = some (.int .i64 k) := by simp [World.cell?, hI]
  have i4 : W0.cell? ⟨g0, 4, none⟩ = some (.int .i64 u) := by simp [World.cell?, hI]
  have i5 : W0.cell? ⟨g0, 5, none⟩ = some (.int .i64 v) := by simp [World.cell?, hI]
  have i6 : W0.cell? ⟨g0, 6, none⟩ = some (.int .u64 d) := by simp [World.cell?, hI]
  have i7 : W0.cell? ⟨g0, 7, none⟩ = some (.slice B n kc) := by simp [World.cell?, hI]
  go_upto_region 5 with (fail)
  have hx_ : Ext W0 (W0.alloc (.cells #[.int .i64 k, .int .i64 u, .int .i64 v, .int .u64 d] 24)) := (Below.refl _ W0).alloc (Nat.le_refl _) _
  have hO := heap_alloc_new W0 (.cells #[.int .i64 k, .int .i64 u, .int .i64 v, .int .u64 d] 24)
  generalize W0.alloc (.cells #[.int .i64 k, .int .i64 u, .int .i64 v, .int .u64 d] 24) = W1 at *
  generalize W0.heap.size = gp at *
  clear i0 i1 i2 i3 i4 i5 i6 i7
  replace hI := heap_ext hI hx_
  replace hW := hW.trans hx_
  clear hx_
  have i0 : W1.cell? ⟨g0, 0, none⟩ = some (.int .i64 t) := by simp [World.cell?, hI]
  have i1 : W1.cell? ⟨g0, 1, none⟩ = some (.int .i64 c) := by simp [World.cell?, hI]
  have i2 : W1.cell? ⟨g0, 2, none⟩ = some (.int .i64 me) := by simp [World.cell?, hI]
  have i3 : W1.cell? ⟨g0, 3, none⟩ = some (.int .i64 k) := by simp [World.cell?, hI]
  have i4 : W1.cell? ⟨g0, 4, none⟩ = some (.int .i64 u) := by simp [World.cell?, hI]
  have i5 : W1.cell? ⟨g0, 5, none⟩ = some (.int .i64 v) := by simp [World.cell?, hI]
  have i6 : W1.cell? ⟨g0, 6, none⟩ = some (.int .u64 d) := by simp [World.cell?, hI]
  have i7 : W1.cell? ⟨g0, 7, none⟩ = some (.slice B n kc) := by simp [World.cell?, hI]
  go_upto_region 6 with (fail)
  clear i0 i1 i2 i3 i4 i5 i6 i7
  clear hI
  go_wp2_with fail
  refine (shown13_any _).mono ?_
  rintro e W2 ⟨rfl, hx⟩
  replace hO := heap_ext hO hx
  replace hW := hW.trans hx
  clear hx
  have p0 : W2.cell? ⟨gp, 0, none⟩ = some (.int .i64 k) := by simp [World.cell?, hO]
  have p1 : W2.cell? ⟨gp, 1, none⟩ = some (.int .i64 u) := by simp [World.cell?, hO]
  have p2 : W2.cell? ⟨gp, 2, none⟩ = some (.int .i64 v) := by simp [World.cell?, hO]
  have p3 : W2.cell? ⟨gp, 3, none⟩ = some (.int .u64 d) := by simp [World.cell?, hO]
  go_wp2_with fail
  refine (dims_any t c _).mono ?_
  rintro e w' ⟨rfl, rfl⟩
  cases hd : mayB t c with
  | false =>
    go_wp2
    go_ret
    exact ⟨rfl, hW⟩
  | true =>
    obtain ⟨ht1, ht2, hc1, hc2⟩ := mayB_true hd
    have HD := Lib.hid hd
    clear hd
    rcases Decidable.em (me < 0) with hm | hm
    · go_wp2
      go_ret
      exact ⟨rfl, hW⟩
    rcases (Decidable.em (me < t)).symm with hmt | hmt
    · have hmt' : t ≤ me := by omega
      go_wp2
      go_ret
      exact ⟨rfl, hW⟩
    have hmt' : ¬ t ≤ me := by omega
    rcases (Decidable.em (n ≤ 60)).symm with hq | hq
    · have hq' : (60 : Int) < (n : Int) := by omega
      go_wp2
      go_ret
      exact ⟨rfl, hW⟩
    have hq' : ¬ (60 : Int) < (n : Int) := by omega
    have hgo : (k = 5 ∧ u < 1) ∨ (k = 5 ∧ ¬ u < 1 ∧ (c : Int) < u) ∨ (k = 5 → 1 ≤ u ∧ u ≤ c) := by omega
    rcases hgo with ⟨rfl, hu⟩ | ⟨rfl, hu1, hu⟩ | hu
    · go_wp2
      go_ret
      exact ⟨rfl, hW⟩
    · go_wp2
      go_ret
      exact ⟨rfl, hW⟩
    have hlog := (hB.log (by omega)).ext hW
    obtain ⟨a0, a1, a2, a3, o0, o1, o2, o3, b, he⟩ := next_form (P := nextT (epochT t me k u (rs.length + 1))) (ns := rs.map Res.n) (fun x hx => epochN_ok _ _ _ _ _ (fun h => by have := hu h; unfold U64; omega) _ x hG.u64s hx)
    have HE := Lib.hid he
    clear he
    have hK : (k = 5 ∧ 1 ≤ u ∧ u ≤ c) ∨ ¬ k = 5 := by omega
    rcases hK with ⟨rfl, hu1, hu2⟩ | hk
    · have hu3 : ¬ u < 1 := by omega
      have hu4 : ¬ (c : Int) < u := by omega
      clear hu
      go_upto_region 9 with (fail)
      go_wp2_with fail
      refine (enext_any (rs.length + 1) t c me _ u v d (by omega) (by omega) (by omega) (by omega) (by omega) B n kc rs (Nat.lt_succ_self _) _ hlog hG (fun x hx => epochN_ok _ _ _ _ _ (fun h => by unfold U64; omega) _ x hG.u64s hx)).mono ?_
      rintro e w_a ⟨rfl, hx_⟩
      rw [HE.out]
      replace hlog := hlog.ext hx_
      clear p0 p1 p2 p3
      replace hO := heap_ext hO hx_
      replace hW := hW.trans hx_
      clear hx_
      go_upto_region 10 with (fail)
      obtain ⟨hx_, hba, hoa⟩ := two_boxes7 w_a (.cells #[.int .i64 a0, .int .i64 a1, .int .u64 a2, .int .u64 a3, .slice none 0 0, .slice none 0 0] 33) (.cells #[.int .i64 o0, .bool o1, .int .i64 o2, .int .u64 o3, .slice none 0 0] 37)
      generalize (w_a.alloc (.cells #[.int .i64 a0, .int .i64 a1, .int .u64 a2, .int .u64 a3, .slice none 0 0, .slice none 0 0] 33)).alloc (.cells #[.int .i64 o0, .bool o1, .int .i64 o2, .int .u64 o3, .slice none 0 0] 37) = Wa at *
      replace hlog := hlog.ext hx_
      generalize w_a.heap.size = ga at *
      replace hO := heap_ext hO hx_
      replace hW := hW.trans hx_
      clear hx_
      have p0 : Wa.cell? ⟨gp, 0, none⟩ = some (.int .i64 5) := by simp [World.cell?, hO]
      have p1 : Wa.cell? ⟨gp, 1, none⟩ = some (.int .i64 u) := by simp [World.cell?, hO]
      have p2 : Wa.cell? ⟨gp, 2, none⟩ = some (.int .i64 v) := by simp [World.cell?, hO]
      have p3 : Wa.cell? ⟨gp, 3, none⟩ = some (.int .u64 d) := by simp [World.cell?, hO]
      go_wp2_with fail
      refine (rnext13_any (rs.length + 1) t me _ u v d (by omega) (by omega) (by omega) (by omega) (by omega) B n kc rs (Nat.lt_succ_self _) _ hlog hG).mono ?_
      rintro e w_b ⟨rfl, hx_⟩
      rw [HE.out]
      clear p0 p1 p2 p3
      replace hO := heap_ext hO hx_
      replace hba := heap_ext hba hx_
      replace hoa := heap_ext hoa hx_
      replace hW := hW.trans hx_
      clear hx_
      go_upto_region 11 with (fail)
      obtain ⟨hx_, hbb, hob⟩ := two_boxes7 w_b (.cells #[.int .i64 a0, .int .i64 a1, .int .u64 a2, .int .u64 a3, .slice none 0 0, .slice none 0 0] 33) (.cells #[.int .i64 o0, .bool o1, .int .i64 o2, .int .u64 o3, .slice none 0 0] 37)
      generalize (w_b.alloc (.cells #[.int .i64 a0, .int .i64 a1, .int .u64 a2, .int .u64 a3, .slice none 0 0, .slice none 0 0] 33)).alloc (.cells #[.int .i64 o0, .bool o1, .int .i64 o2, .int .u64 o3, .slice none 0 0] 37) = Wb at *
      generalize w_b.heap.size = gb at *
      replace hO := heap_ext hO hx_
      replace hba := heap_ext hba hx_
      replace hoa := heap_ext hoa hx_
      replace hW := hW.trans hx_
      clear hx_
      have f0 : Wb.cell? ⟨ga, 0, none⟩ = some (.int .i64 a0) := by simp [World.cell?, hba]
      have f1 : Wb.cell? ⟨ga, 1, none⟩ = some (.int .i64 a1) := by simp [World.cell?, hba]
      have f2 : Wb.cell? ⟨ga, 2, none⟩ = some (.int .u64 a2) := by simp [World.cell?, hba]
      have f3 : Wb.cell? ⟨ga, 3, none⟩ = some (.int .u64 a3) := by simp [World.cell?, hba]
      have f4 : Wb.cell? ⟨ga, 4, none⟩ = some (.slice none 0 0) := by simp [World.cell?, hba]
      have f5 : Wb.cell? ⟨ga, 5, none⟩ = some (.slice none 0 0) := by simp [World.cell?, hba]
      have g0 : Wb.cell? ⟨gb, 0, none⟩ = some (.int .i64 a0) := by simp [World.cell?, hbb]
      have g1 : Wb.cell? ⟨gb, 1, none⟩ = some (.int .i64 a1) := by simp [World.cell?, hbb]
      have g2 : Wb.cell? ⟨gb, 2, none⟩ = some (.int .u64 a2) := by simp [World.cell?, hbb]
      have g3 : Wb.cell? ⟨gb, 3, none⟩ = some (.int .u64 a3) := by simp [World.cell?, hbb]
      have g4 : Wb.cell? ⟨gb, 4, none⟩ = some (.slice none 0 0) := by simp [World.cell?, hbb]
      have g5 : Wb.cell? ⟨gb, 5, none⟩ = some (.slice none 0 0) := by simp [World.cell?, hbb]
      go_wp2_with fail
      refine (asks_yes ⟨a0, a1, a2, a3, none, 0, 0, none, 0, 0⟩ _ (accok_none _ _ _ _ _) (by simp)).mono ?_
      rintro e w_c ⟨rfl, hx_⟩
      clear f0 f1 f2 f3 f4 f5 g0 g1 g2 g3 g4 g5
      replace hO := heap_ext hO hx_
      replace hba := heap_ext hba hx_
      replace hoa := heap_ext hoa hx_
      replace hbb := heap_ext hbb hx_
      replace hob := heap_ext hob hx_
      replace hW := hW.trans hx_
      clear hx_
      have f0 : w_c.cell? ⟨ga + 1, 0, none⟩ = some (.int .i64 o0) := by simp [World.cell?, hoa]
      have f1 : w_c.cell? ⟨ga + 1, 1, none⟩ = some (.bool o1) := by simp [World.cell?, hoa]
      have f2 : w_c.cell? ⟨ga + 1, 2, none⟩ = some (.int .i64 o2) := by simp [World.cell?, hoa]
      have f3 : w_c.cell? ⟨ga + 1, 3, none⟩ = some (.int .u64 o3) := by simp [World.cell?, hoa]
      have f4 : w_c.cell? ⟨ga + 1, 4, none⟩ = some (.slice none 0 0) := by simp [World.cell?, hoa]
      have g0 : w_c.cell? ⟨gb + 1, 0, none⟩ = some (.int .i64 o0) := by simp [World.cell?, hob]
      have g1 : w_c.cell? ⟨gb + 1, 1, none⟩ = some (.bool o1) := by simp [World.cell?, hob]
      have g2 : w_c.cell? ⟨gb + 1, 2, none⟩ = some (.int .i64 o2) := by simp [World.cell?, hob]
      have g3 : w_c.cell? ⟨gb + 1, 3, none⟩ = some (.int .u64 o3) := by simp [World.cell?, hob]
      have g4 : w_c.cell? ⟨gb + 1, 4, none⟩ = some (.slice none 0 0) := by simp [World.cell?, hob]
      go_wp2_with fail
      refine (outs_yes ⟨o0, o1, o2, o3⟩ _).mono ?_
      rintro e w_d ⟨rfl, hx_⟩
      clear f0 f1 f2 f3 f4 g0 g1 g2 g3 g4
      replace hO := heap_ext hO hx_
      replace hba := heap_ext hba hx_
      replace hoa := heap_ext hoa hx_
      replace hbb := heap_ext hbb hx_
      replace hob := heap_ext hob hx_
      replace hW := hW.trans hx_
      clear hx_
      go_wp2
      go_ret
      exact ⟨rfl, hW⟩
    · clear hu
      go_upto_region 9 with (fail)
      go_wp2_with fail
      refine (enext_any (rs.length + 1) t c me _ u v d (by omega) (by omega) (by omega) (by omega) (by omega) B n kc rs (Nat.lt_succ_self _) _ hlog hG (fun x hx => epochN_ok _ _ _ _ _ (fun h => by unfold U64; omega) _ x hG.u64s hx)).mono ?_
      rintro e w_a ⟨rfl, hx_⟩
      rw [HE.out]
      replace hlog := hlog.ext hx_
      clear p0 p1 p2 p3
      replace hO := heap_ext hO hx_
      replace hW := hW.trans hx_
      clear hx_
      go_upto_region 10 with (fail)
      obtain ⟨hx_, hba, hoa⟩ := two_boxes7 w_a (.cells #[.int .i64 a0, .int .i64 a1, .int .u64 a2, .int .u64 a3, .slice none 0 0, .slice none 0 0] 33) (.cells #[.int .i64 o0, .bool o1, .int .i64 o2, .int .u64 o3, .slice none 0 0] 37)
      generalize (w_a.alloc (.cells #[.int .i64 a0, .int .i64 a1, .int .u64 a2, .int .u64 a3, .slice none 0 0, .slice none 0 0] 33)).alloc (.cells #[.int .i64 o0, .bool o1, .int .i64 o2, .int .u64 o3, .slice none 0 0] 37) = Wa at *
      replace hlog := hlog.ext hx_
      generalize w_a.heap.size = ga at *
      replace hO := heap_ext hO hx_
      replace hW := hW.trans hx_
      clear hx_
      have p0 : Wa.cell? ⟨gp, 0, none⟩ = some (.int .i64 k) := by simp [World.cell?, hO]
      have p1 : Wa.cell? ⟨gp, 1, none⟩ = some (.int .i64 u) := by simp [World.cell?, hO]
      have p2 : Wa.cell? ⟨gp, 2, none⟩ = some (.int .i64 v) := by simp [World.cell?, hO]
      have p3 : Wa.cell? ⟨gp, 3, none⟩ = some (.int .u64 d) := by simp [World.cell?, hO]
      go_wp2_with fail
      refine (rnext13_any (rs.length + 1) t me _ u v d (by omega) (by omega) (by omega) (by omega) (by omega) B n kc rs (Nat.lt_succ_self _) _ hlog hG).mono ?_
      rintro e w_b ⟨rfl, hx_⟩
      rw [HE.out]
      clear p0 p1 p2 p3
      replace hO := heap_ext hO hx_
      replace hba := heap_ext hba hx_
      replace hoa := heap_ext hoa hx_
      replace hW := hW.trans hx_
      clear hx_
      go_upto_region 11 with (fail)
      obtain ⟨hx_, hbb, hob⟩ := two_boxes7 w_b (.cells #[.int .i64 a0, .int .i64 a1, .int .u64 a2, .int .u64 a3, .slice none 0 0, .slice none 0 0] 33) (.cells #[.int .i64 o0, .bool o1, .int .i64 o2, .int .u64 o3, .slice none 0 0] 37)
      generalize (w_b.alloc (.cells #[.int .i64 a0, .int .i64 a1, .int .u64 a2, .int .u64 a3, .slice none 0 0, .slice none 0 0] 33)).alloc (.cells #[.int .i64 o0, .bool o1, .int .i64 o2, .int .u64 o3, .slice none 0 0] 37) = Wb at *
      generalize w_b.heap.size = gb at *
      replace hO := heap_ext hO hx_
      replace hba := heap_ext hba hx_
      replace hoa := heap_ext hoa hx_
      replace hW := hW.trans hx_
      clear hx_
      have f0 : Wb.cell? ⟨ga, 0, none⟩ = some (.int .i64 a0) := by simp [World.cell?, hba]
      have f1 : Wb.cell? ⟨ga, 1, none⟩ = some (.int .i64 a1) := by simp [World.cell?, hba]
      have f2 : Wb.cell? ⟨ga, 2, none⟩ = some (.int .u64 a2) := by simp [World.cell?, hba]
      have f3 : Wb.cell? ⟨ga, 3, none⟩ = some (.int .u64 a3) := by simp [World.cell?, hba]
      have f4 : Wb.cell? ⟨ga, 4, none⟩ = some (.slice none 0 0) := by simp [World.cell?, hba]
      have f5 : Wb.cell? ⟨ga, 5, none⟩ = some (.slice none 0 0) := by simp [World.cell?, hba]
      have g0 : Wb.cell? ⟨gb, 0, none⟩ = some (.int .i64 a0) := by simp [World.cell?, hbb]
      have g1 : Wb.cell? ⟨gb, 1, none⟩ = some (.int .i64 a1) := by simp [World.cell?, hbb]
      have g2 : Wb.cell? ⟨gb, 2, none⟩ = some (.int .u64 a2) := by simp [World.cell?, hbb]
      have g3 : Wb.cell? ⟨gb, 3, none⟩ = some (.int .u64 a3) := by simp [World.cell?, hbb]
      have g4 : Wb.cell? ⟨gb, 4, none⟩ = some (.slice none 0 0) := by simp [World.cell?, hbb]
      have g5 : Wb.cell? ⟨gb, 5, none⟩ = some (.slice none 0 0) := by simp [World.cell?, hbb]
      go_wp2_with fail
      refine (asks_yes ⟨a0, a1, a2, a3, none, 0, 0, none, 0, 0⟩ _ (accok_none _ _ _ _ _) (by simp)).mono ?_
      rintro e w_c ⟨rfl, hx_⟩
      clear f0 f1 f2 f3 f4 f5 g0 g1 g2 g3 g4 g5
      replace hO := heap_ext hO hx_
      replace hba := heap_ext hba hx_
      replace hoa := heap_ext hoa hx_
      replace hbb := heap_ext hbb hx_
      replace hob := heap_ext hob hx_
      replace hW := hW.trans hx_
      clear hx_
      have f0 : w_c.cell? ⟨ga + 1, 0, none⟩ = some (.int .i64 o0) := by simp [World.cell?, hoa]
      have f1 : w_c.cell? ⟨ga + 1, 1, none⟩ = some (.bool o1) := by simp [World.cell?, hoa]
      have f2 : w_c.cell? ⟨ga + 1, 2, none⟩ = some (.int .i64 o2) := by simp [World.cell?, hoa]
      have f3 : w_c.cell? ⟨ga + 1, 3, none⟩ = some (.int .u64 o3) := by simp [World.cell?, hoa]
      have f4 : w_c.cell? ⟨ga + 1, 4, none⟩ = some (.slice none 0 0) := by simp [World.cell?, hoa]
      have g0 : w_c.cell? ⟨gb + 1, 0, none⟩ = some (.int .i64 o0) := by simp [World.cell?, hob]
      have g1 : w_c.cell? ⟨gb + 1, 1, none⟩ = some (.bool o1) := by simp [World.cell?, hob]
      have g2 : w_c.cell? ⟨gb + 1, 2, none⟩ = some (.int .i64 o2) := by simp [World.cell?, hob]
      have g3 : w_c.cell? ⟨gb + 1, 3, none⟩ = some (.int .u64 o3) := by simp [World.cell?, hob]
      have g4 : w_c.cell? ⟨gb + 1, 4, none⟩ = some (.slice none 0 0) := by simp [World.cell?, hob]
      go_wp2_with fail
      refine (outs_yes ⟨o0, o1, o2, o3⟩ _).mono ?_
      rintro e w_d ⟨rfl, hx_⟩
      clear f0 f1 f2 f3 f4 g0 g1 g2 g3 g4
      replace hO := heap_ext hO hx_
      replace hba := heap_ext hba hx_
      replace hoa := heap_ext hoa hx_
      replace hbb := heap_ext hbb hx_
      replace hob := heap_ext hob hx_
      replace hW := hW.trans hx_
      clear hx_
      go_wp2
      go_ret
      exact ⟨rfl, hW⟩
set_option maxRecDepth 100000 in
theorem open_nextin {H : Type} {enc : TypeId × Value → H} {w : World} {base : Nat} {b0 : Nat} {v : Value} {d : DataW H} {p : List MemPlace} (hv : Value.okWide Try.prog w .any b0 27 v) (h : DataW.Trod enc Try.prog w base (fun _ => true) true 27 v d p) :
    ∃ (t c me k u v_ d_ : Int) (B : Option Addr) (n kc : Nat) (rs : List Res), v = .agg #[.int .i64 t, .int .i64 c, .int .i64 me, .int .i64 k, .int .i64 u, .int .i64 v_, .int .u64 d_, .slice B n kc] ∧ LogP w B n kc rs ∧ GoodR rs := by
  obtain ⟨cs, rfl, hsz⟩ := okWide_struct Try.underlying27 hv
  obtain ⟨fuel, hf⟩ := h
  obtain ⟨k, hg⟩ := open_inner Try.underlying27 hf
  have hl : cs.toList.length = 8 := by simpa [show Try.prog.cellsOf 27 = 8 by kernel_rfl] using hsz
  have hcs : (Value.agg cs).cells.toList = cs.toList := rfl
  rw [hcs] at hg
  have hcs2 : cs = cs.toList.toArray := by simp
  rw [hcs2]
  generalize cs.toList = l at *
  match l, hl with
  | [x0, x1, x2, x3, x4, x5, x6, x7], _ =>
  obtain ⟨_, t0⟩ := hg 0 _ rfl
  obtain ⟨_, t1⟩ := hg 1 _ rfl
  obtain ⟨_, t2⟩ := hg 2 _ rfl
  obtain ⟨_, t3⟩ := hg 3 _ rfl
  obtain ⟨_, t4⟩ := hg 4 _ rfl
  obtain ⟨t, e0, _, w0⟩ := DataW.trod_int Try.underlying3 t0
  obtain ⟨c, e1, _, w1⟩ := DataW.trod_int Try.underlying3 t1
  obtain ⟨me, e2, _, w2⟩ := DataW.trod_int Try.underlying3 t2
  obtain ⟨k, u, v_, d_, e3⟩ := open_op (by simp [cellsIntS, show Try.prog.cellsOf 24 = 4 by kernel_rfl]) t3
  obtain ⟨B, n, kc, rs, e4, hS, hG⟩ := open_logU t4
  simp [cellsIntS, show Try.prog.cellsOf 24 = 4 by kernel_rfl, show Try.prog.cellsOf 25 = 1 by kernel_rfl] at e0 e1 e2 e3 e4
  obtain ⟨rfl, rfl, rfl, rfl⟩ := e3
  subst e0 e1 e2 e4
  exact ⟨t, c, me, k, u, v_, d_, B, n, kc, rs, rfl, hS, hG⟩
set_option maxRecDepth 100000 in
theorem EpochNext_lifted (os : Os) (started : os.Started) (H : Type) (enc : TypeId × Value → H) :
    ReturnsInHanded {} Try.checked os 3 .any (Rows.epochNextSpec.pre6 enc Try.prog Try.f3 Rows.epochNextRow.domain false) (Rows.epochNextSpec.post enc Try.prog Try.f3 false true false false) := by
  refine law_row os started H enc Rows.epochNextSpec rfl (fun ds h => by
    match ds, h with
    | [_], _ => rfl) (by kernel_rfl) Try.func3 rfl
    (by rw [Try.params3]; intro t ht; simp at ht; subst ht; exact ⟨by kernel_rfl, of_decide_eq_true (by kernel_rfl)⟩)
    (ChangeSpec.witness6 (enc := enc) (C := Try.checked) false ⟨#[], #[.agg #[.int .i64 0, .int .i64 0, .int .i64 0, .int .i64 0, .int .i64 0, .int .i64 0, .int .u64 0, .slice none 0 0]], []⟩ 8 (by kernel_rfl) (by kernel_rfl) (by kernel_rfl) (by kernel_rfl)) ?_
  intro W base args ds ps hval hA hlt
  rw [Try.params3] at hA hval
  obtain ⟨v0, d0, rfl, rfl, h0⟩ := trodAll_one hA
  obtain ⟨t, c, me, k, u, v_, d_, B, n, kc, rs, rfl, hB, hG⟩ := open_nextin (hval 0 _ v0 rfl rfl) h0
  exact nextlaw_walk t c me k u v_ d_ B n kc rs W hB hG
theorem EpochNext_holds : Rows.EpochNextSaid :=
  OpenClaim.holds_of_wide 3 Try.f3 rfl rfl rfl rfl rfl rfl rfl ⟨rfl, rfl, rfl, rfl, rfl⟩ rfl rfl rfl rfl rfl (by kernel_rfl) Try.func3 (by kernel_rfl)
    (of_decide_eq_true (by kernel_rfl)) (by unfold Func.isWrapper; rw [if_neg (of_decide_eq_false (by kernel_rfl))]; exact ⟨rfl, rfl⟩)
    (fun os started H enc _ => EpochNext_lifted os started H enc)
#print axioms EpochNext_holds
end Go.Proofs.Ytjokaginolpbeaa
