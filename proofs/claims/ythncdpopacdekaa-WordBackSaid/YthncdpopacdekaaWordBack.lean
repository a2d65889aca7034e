/- Proved: the law WordBack (what is put in comes out again) returns true at every input and turns none of its arguments. No condition. -/
import Derived.Test.YthncdpopacdekaaWordRef
import Derived.Test.YthncdpopacdekaaLift
import Derived.Test.YthncdpopacdekaaAggs
import Derived.LoopTactic
namespace Go.Proofs.Ythncdpopacdekaa
open Go.ChangeShapes Go.WideShapes Go.ChangeAt Go.RowKit

theorem link_u64 (r : Int) (hr : isRef r) (m : Bool) : U64 (linkF r m) := by
  rw [link_ref hr]; obtain ⟨h0, h1⟩ := hr
  cases m <;> simp [U64] <;> omega
theorem back_facts (r o n b : Int) (m : Bool) (hr : isRef r) (ho : isRef o) (hn : U64 n) (hb0 : 0 ≤ b) (hb : b < 4) :
    (refF (linkF r m) == r) = true ∧ (markF (linkF r m) == m) = true ∧ (stampF (flagF (n / 4) b) == n / 4) = true ∧ (firstF (topF r (n / 1048576)) == r) = true ∧
    (tagF (topF r (n / 1048576)) == n / 1048576) = true ∧ (firstF (endsF r o) == r) = true ∧ (firstF (tagF (endsF r o)) == o) = true ∧
    ((linkF o m == linkF r m) == (o == r)) = true ∧ (linkF r (!m) != linkF r m) = true := by
  have hn0 := hn.1
  have hn1 := hn.2
  rw [link_ref hr, link_ref hr, link_ref ho, ends_ref hr ho, top_ref hr ⟨by omega, by omega⟩, flag_eq (n / 4) b ⟨by omega, by omega⟩]
  obtain ⟨h0, h1⟩ := hr
  obtain ⟨h2, h3⟩ := ho
  refine ⟨?_, ?_, ?_, ?_, ?_, ?_, ?_, ?_, ?_⟩
  · cases m <;> simp [refF] <;> omega
  · cases m <;> simp [markF] <;> omega
  · simp [stampF]; omega
  · simp [firstF]; omega
  · simp [tagF]; omega
  · simp [firstF]; omega
  · simp [firstF, tagF]; omega
  · rw [beq_iff_eq, Bool.eq_iff_iff]; cases m <;> simp <;> omega
  · cases m <;> simp
    all_goals omega
theorem back_has (n : Int) (hn : U64 n) (b k : Int) (hb0 : 0 ≤ b) (hb : b < 4) (hk0 : 0 ≤ k) (hk : k < 4) : hasF (flagF (n / 4) b) k = (b == 3 || (k == 0 || b == k)) := by
  have hn0 := hn.1
  have hn1 := hn.2
  rw [flag_eq (n / 4) b ⟨by omega, by omega⟩]
  have hb' : b = 0 ∨ b = 1 ∨ b = 2 ∨ b = 3 := by omega
  have hk' : k = 0 ∨ k = 1 ∨ k = 2 ∨ k = 3 := by omega
  rcases hb' with rfl | rfl | rfl | rfl <;> rcases hk' with rfl | rfl | rfl | rfl <;>
    simp [hasF, hasB] <;> omega
set_option maxHeartbeats 4000000 in
theorem back_walk (r o : Int) (m : Bool) (n c : Int) (wn : U64 n) (hc0 : 0 ≤ c) (hc1 : c < 256) (w : World) :
    Calls Try.prog 9 #[.agg #[.int .i64 r, .int .i64 o, .bool m, .int .u64 n, .int .u8 c]] w fun e w' => e = .returned (.bool true) ∧ Below w.heap.size w w' := by
  have hnot : ∀ (x : Bool) (w : World), (Op.unary .not (.bool x)).run Try.prog w = .ok (.bool (!x)) w := fun _ _ => rfl
  by_cases hr : isRefB r = true
  · by_cases ho : isRefB o = true
    · have pr := isRefB_true hr
      have po := isRefB_true ho
      obtain ⟨f1, f2, f3, f4, f5, f6, f7, f8, f9⟩ := back_facts r o n (c % 4) m pr po wn (by omega) (by omega)
      have g0 := back_has n wn (c % 4) 0 (by omega) (by omega) (by omega) (by omega)
      have g1 := back_has n wn (c % 4) 1 (by omega) (by omega) (by omega) (by omega)
      have g2 := back_has n wn (c % 4) 2 (by omega) (by omega) (by omega) (by omega)
      have g3 := back_has n wn (c % 4) 3 (by omega) (by omega) (by omega) (by omega)
      have u1 := link_u64 r pr m
      have u2 := flag_u64 (n / 4) (c % 4) ⟨by have := wn.1; omega, by have := wn.1; have := wn.2; omega⟩
      have u3 := top_u64 r (n / 1048576)
      have u4 := ends_u64 r o
      have n0 := wn.1
      have n1 := wn.2
      have hb : c % 4 = 0 ∨ c % 4 = 1 ∨ c % 4 = 2 ∨ c % 4 = 3 := by omega
      rcases hb with hb | hb | hb | hb <;> rw [hb] at f3 g0 g1 g2 g3 u2 <;> simp at g0 g1 g2 g3
      all_goals
        go_enter Try.func9, Try.ntmps9
        go_wp2_with (first
          | (go_at_call 23; refine (shown8_any _).mono ?_; rintro e w' ⟨rfl, rfl⟩)
          | (go_at_call 24; refine (is_any _ _).mono ?_; rintro e w' ⟨rfl, rfl⟩)
          | (go_at_call 27; refine (link_any _ _ _).mono ?_; rintro e w' ⟨rfl, rfl⟩)
          | (go_at_call 33; refine (flag_any _ _ _).mono ?_; rintro e w' ⟨rfl, rfl⟩)
          | (go_at_call 39; refine (top_any _ _ _).mono ?_; rintro e w' ⟨rfl, rfl⟩)
          | (go_at_call 45; refine (ends_any _ _ _).mono ?_; rintro e w' ⟨rfl, rfl⟩)
          | (go_at_call 25; refine (pair_any _ (by assumption) _).mono ?_; rintro e w' ⟨rfl, rfl⟩))
        refine wp_loop_rounds 5 ?_
        rw [rounds_succ]
        go_wp2_with (first
          | (go_at_call 37; refine (has_any _ _ (by assumption) _).mono ?_; rintro e w' ⟨rfl, rfl⟩))
        rw [rounds_succ]
        go_wp2_with (first
          | (go_at_call 37; refine (has_any _ _ (by assumption) _).mono ?_; rintro e w' ⟨rfl, rfl⟩))
        rw [rounds_succ]
        go_wp2_with (first
          | (go_at_call 37; refine (has_any _ _ (by assumption) _).mono ?_; rintro e w' ⟨rfl, rfl⟩))
        rw [rounds_succ]
        go_wp2_with (first
          | (go_at_call 37; refine (has_any _ _ (by assumption) _).mono ?_; rintro e w' ⟨rfl, rfl⟩))
        rw [rounds_succ]
        go_wp2_with (first
          | (go_at_call 37; refine (has_any _ _ (by assumption) _).mono ?_; rintro e w' ⟨rfl, rfl⟩)
          | (go_at_call 29; refine (ref_any _ (by assumption) _).mono ?_; rintro e w' ⟨rfl, rfl⟩)
          | (go_at_call 31; refine (mark_any _ (by assumption) _).mono ?_; rintro e w' ⟨rfl, rfl⟩)
          | (go_at_call 35; refine (stamp_any _ _).mono ?_; rintro e w' ⟨rfl, rfl⟩)
          | (go_at_call 41; refine (first_any _ (by assumption) _).mono ?_; rintro e w' ⟨rfl, rfl⟩)
          | (go_at_call 43; refine (tag_any _ _).mono ?_; rintro e w' ⟨rfl, rfl⟩)
          | (go_at_call 27; refine (link_any _ _ _).mono ?_; rintro e w' ⟨rfl, rfl⟩))
        go_ret
        exact ⟨rfl, (Below.refl _ _).alloc (Nat.le_refl _) _⟩
    · have ho' : isRefB o = false := by simpa using ho
      go_enter Try.func9, Try.ntmps9
      go_wp2_with (first
        | (go_at_call 23; refine (shown8_any _).mono ?_; rintro e w' ⟨rfl, rfl⟩)
        | (go_at_call 24; refine (is_any _ _).mono ?_; rintro e w' ⟨rfl, rfl⟩))
      go_ret
      exact ⟨rfl, (Below.refl _ _).alloc (Nat.le_refl _) _⟩
  · have hr' : isRefB r = false := by simpa using hr
    go_enter Try.func9, Try.ntmps9
    go_wp2_with (first
      | (go_at_call 23; refine (shown8_any _).mono ?_; rintro e w' ⟨rfl, rfl⟩)
      | (go_at_call 24; refine (is_any _ _).mono ?_; rintro e w' ⟨rfl, rfl⟩))
    go_ret
    exact ⟨rfl, (Below.refl _ _).alloc (Nat.le_refl _) _⟩
theorem cellsBack : Try.prog.cellsOf 53 = 5 := by kernel_rfl
theorem cellsBI : Try.prog.cellsOf 3 = 1 := by kernel_rfl
theorem cellsBB : Try.prog.cellsOf 4 = 1 := by kernel_rfl
theorem cellsBU : Try.prog.cellsOf 37 = 1 := by kernel_rfl
theorem cellsB8 : Try.prog.cellsOf 5 = 1 := by kernel_rfl
set_option maxRecDepth 100000 in
theorem WordBack_lifted (os : Os) (started : os.Started) (H : Type) (enc : TypeId × Value → H) :
    ReturnsInHanded {} Try.checked os 9 .any (Rows.wordBackSpec.pre6 enc Try.prog Try.f9 Rows.wordBackRow.domain false) (Rows.wordBackSpec.post enc Try.prog Try.f9 false true false false) := by
  refine law_row os started H enc Rows.wordBackSpec rfl (fun ds h => by
    match ds, h with
    | [_], _ => rfl) (by kernel_rfl) Try.func9 rfl
    (by rw [Try.params9]; intro t ht; simp at ht; subst ht; exact ⟨by kernel_rfl, of_decide_eq_true (by kernel_rfl)⟩)
    (ChangeSpec.witness6 (enc := enc) (C := Try.checked) false ⟨#[], #[.agg #[.int .i64 0, .int .i64 0, .bool false, .int .u64 0, .int .u8 0]], []⟩ 8 (by kernel_rfl) (by kernel_rfl) (by kernel_rfl) (by kernel_rfl)) ?_
  intro W base args ds ps hval hA hlt
  rw [Try.params9] at hA hval
  obtain ⟨v0, d0, rfl, rfl, h0⟩ := trodAll_one hA
  obtain ⟨l, xs, n, rfl, hl, rfl, _, _, hf⟩ := open_struct Try.underlying53 (hval 0 _ v0 rfl rfl) h0
  rw [cellsBack] at hl
  obtain ⟨c0, c1, c2, c3, c4, rfl⟩ := list_five hl
  obtain ⟨_, _, t0⟩ := hf 0 _ rfl
  obtain ⟨_, _, t1⟩ := hf 1 _ rfl
  obtain ⟨_, _, t2⟩ := hf 2 _ rfl
  obtain ⟨_, _, t3⟩ := hf 3 _ rfl
  obtain ⟨_, _, t4⟩ := hf 4 _ rfl
  obtain ⟨a0, e0, _, w0⟩ := DataW.trod_int Try.underlying3 t0
  obtain ⟨a1, e1, _, w1⟩ := DataW.trod_int Try.underlying3 t1
  obtain ⟨a2, e2, _⟩ := DataW.trod_bool Try.underlying4 t2
  obtain ⟨a3, e3, _, w3⟩ := DataW.trod_int Try.underlying37 t3
  obtain ⟨a4, e4, _, w4⟩ := DataW.trod_int Try.underlying5 t4
  simp [cellsBI, cellsBB, cellsBU, cellsB8] at e0 e1 e2 e3 e4
  subst e0 e1 e2 e3 e4
  have b4 := wf_u8 w4
  exact back_walk a0 a1 a2 a3 a4 (wf_u64 w3) b4.1 b4.2 W
theorem WordBack_holds : Rows.WordBackSaid :=
  OpenClaim.holds_of_wide 9 Try.f9 rfl rfl rfl rfl rfl rfl rfl ⟨rfl, rfl, rfl, rfl, rfl⟩ rfl rfl rfl rfl rfl (by kernel_rfl) Try.func9 (by kernel_rfl)
    (of_decide_eq_true (by kernel_rfl)) (by unfold Func.isWrapper; rw [if_neg (of_decide_eq_false (by kernel_rfl))]; exact ⟨rfl, rfl⟩)
    (fun os started H enc _ => WordBack_lifted os started H enc)
#print axioms WordBack_holds
end Go.Proofs.Ythncdpopacdekaa
