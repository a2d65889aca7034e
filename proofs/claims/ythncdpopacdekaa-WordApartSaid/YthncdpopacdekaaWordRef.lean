import Derived.Test.YthncdpopacdekaaWord
namespace Go.Proofs.Ythncdpopacdekaa
open Go.RowKit

/-! The document's text (wealdref08), and 'shown'. -/
def isRefB (r : Int) : Bool := decide (0 ≤ r) && decide (r < 1048576)
theorem isRefB_true {r : Int} (h : isRefB r = true) : isRef r := by simpa [isRefB, isRef] using h
theorem is_any (r : Int) (w : World) :
    Calls Try.prog 24 #[.int .i64 r] w fun e w' => e = .returned (.bool (isRefB r)) ∧ w = w' := by
  by_cases h0 : 0 ≤ r
  · go_enter Try.func24, Try.ntmps24
    go_wp2
    all_goals go_ret
    all_goals exact ⟨ret_bool (by simp [isRefB, h0]), rfl⟩
  · have h1 : decide (0 ≤ r) = false := by simpa using h0
    go_enter Try.func24, Try.ntmps24
    go_wp2
    all_goals go_ret
    all_goals exact ⟨ret_bool (by simp [isRefB]; omega), rfl⟩
theorem rlink_ref (r : Int) (hr : isRef r) (m : Bool) (w : World) :
    Calls Try.prog 28 #[.int .i64 r, .bool m] w fun e w' => e = .returned (.int .u64 (linkF r m)) ∧ w = w' := by
  have hr' := hr
  obtain ⟨h0, h1⟩ := hr'
  cases m
  all_goals
    go_enter Try.func28, Try.ntmps28
    go_wp2
    go_ret
    refine ⟨ret_int ?_, rfl⟩
    rw [link_ref hr]; simp
theorem rref_any (n : Int) (h : U64 n) (w : World) :
    Calls Try.prog 30 #[.int .u64 n] w fun e w' => e = .returned (.int .i64 (refF n)) ∧ w = w' := by
  have h0 := h.1
  have h9 := h.2
  go_enter Try.func30, Try.ntmps30
  go_wp2
  go_ret
  exact ⟨ret_int (by simp [refF]), rfl⟩
theorem rmark_any (n : Int) (h : U64 n) (w : World) :
    Calls Try.prog 32 #[.int .u64 n] w fun e w' => e = .returned (.bool (markF n)) ∧ w = w' := by
  have h0 := h.1
  have h9 := h.2
  go_enter Try.func32, Try.ntmps32
  go_wp2
  go_ret
  exact ⟨ret_bool (by simp [markF]), rfl⟩
theorem rflag_any (s b : Int) (hs : U64 s) (w : World) :
    Calls Try.prog 34 #[.int .u64 s, .int .i64 b] w fun e w' => e = .returned (.int .u64 (flagF s b)) ∧ w = w' := by
  have h0 := hs.1
  have hb := (u64_wrap b).1
  go_enter Try.func34, Try.ntmps34
  go_wp2
  go_ret
  refine ⟨ret_int ?_, rfl⟩
  rw [flag_eq s b hs]; simp
  try rw [wrap_u64_mod b 4 rfl (by omega)]
theorem rstamp_any (n : Int) (h : U64 n) (w : World) :
    Calls Try.prog 36 #[.int .u64 n] w fun e w' => e = .returned (.int .u64 (stampF n)) ∧ w = w' := by
  have h0 := h.1
  have h9 := h.2
  go_enter Try.func36, Try.ntmps36
  go_wp2
  go_ret
  exact ⟨ret_int (by simp [stampF]), rfl⟩
theorem rhas_any (n b : Int) (h : U64 n) (w : World) :
    Calls Try.prog 38 #[.int .u64 n, .int .i64 b] w fun e w' => e = .returned (.bool (hasF n b)) ∧ w = w' := by
  have h0 := h.1
  have h9 := h.2
  have hb := u64_wrap b
  have hb0 := hb.1
  have hb1 := hb.2
  have e : IntKind.u64.wrap b % 4 = b % 4 := wrap_u64_mod b 4 rfl (by omega)
  have e' : hasF n b = hasB n (IntKind.u64.wrap b % 4) := by unfold hasF; rw [e]
  rw [e']
  clear e e'
  have hm : IntKind.u64.wrap b % 4 = 0 ∨ IntKind.u64.wrap b % 4 = 1 ∨ IntKind.u64.wrap b % 4 = 2 ∨ IntKind.u64.wrap b % 4 = 3 := by omega
  rcases hm with hm | hm | hm | hm <;> rw [hm]
  · go_enter Try.func38, Try.ntmps38
    go_wp2
    go_ret
    exact ⟨rfl, rfl⟩
  · cases h2 : (n % 2 == 1)
    all_goals
      go_enter Try.func38, Try.ntmps38
      go_wp2
      go_ret
      exact ⟨ret_bool (by simp [hasB, h2]), rfl⟩
  · cases h2 : (n / 2 % 2 == 1)
    all_goals
      go_enter Try.func38, Try.ntmps38
      go_wp2
      go_ret
      exact ⟨ret_bool (by simp [hasB, h2]), rfl⟩
  · cases h2 : (n % 2 == 1)
    · go_enter Try.func38, Try.ntmps38
      go_wp2
      go_ret
      exact ⟨ret_bool (by simp [hasB, h2]), rfl⟩
    · cases h3 : (n / 2 % 2 == 1)
      all_goals
        go_enter Try.func38, Try.ntmps38
        go_wp2
        go_ret
        exact ⟨ret_bool (by simp [hasB, h2, h3]), rfl⟩
theorem rtop_ref (r t : Int) (hr : isRef r) (ht : U64 t) (w : World) :
    Calls Try.prog 40 #[.int .i64 r, .int .u64 t] w fun e w' => e = .returned (.int .u64 (topF r t)) ∧ w = w' := by
  have hr' := hr
  obtain ⟨h0, h1⟩ := hr'
  have h2 := ht.1
  go_enter Try.func40, Try.ntmps40
  go_wp2
  go_ret
  exact ⟨ret_int (top_ref hr ht).symm, rfl⟩
theorem rfirst_any (n : Int) (h : U64 n) (w : World) :
    Calls Try.prog 42 #[.int .u64 n] w fun e w' => e = .returned (.int .i64 (firstF n)) ∧ w = w' := by
  have h0 := h.1
  have h9 := h.2
  go_enter Try.func42, Try.ntmps42
  go_wp2
  go_ret
  exact ⟨ret_int (by simp [firstF]), rfl⟩
theorem rtag_any (n : Int) (h : U64 n) (w : World) :
    Calls Try.prog 44 #[.int .u64 n] w fun e w' => e = .returned (.int .u64 (tagF n)) ∧ w = w' := by
  have h0 := h.1
  have h9 := h.2
  go_enter Try.func44, Try.ntmps44
  go_wp2
  go_ret
  exact ⟨ret_int (by simp [tagF]), rfl⟩
theorem rends_ref (u v : Int) (hu : isRef u) (hv : isRef v) (w : World) :
    Calls Try.prog 46 #[.int .i64 u, .int .i64 v] w fun e w' => e = .returned (.int .u64 (endsF u v)) ∧ w = w' := by
  have hu' := hu
  have hv' := hv
  obtain ⟨h0, h1⟩ := hu'
  obtain ⟨h2, h3⟩ := hv'
  go_enter Try.func46, Try.ntmps46
  go_wp2
  go_ret
  exact ⟨ret_int (ends_ref hu hv).symm, rfl⟩
theorem rpair_any (n : Int) (h : U64 n) (w : World) :
    Calls Try.prog 26 #[.int .u64 n] w fun e w' => e = .returned (.tuple #[.int .i64 (firstF n), .int .i64 (firstF (tagF n))]) ∧ w = w' := by
  have h0 := h.1
  have h9 := h.2
  go_enter Try.func26, Try.ntmps26
  go_wp2
  go_ret2
  exact ⟨by simp [firstF, tagF], rfl⟩

theorem shown8_any (w : World) :
    Calls Try.prog 23 #[] w fun e w' => e = .returned (.bool true) ∧ w = w' := by
  have k1 : (linkF 3 true == 7) = true := by decide
  have k2 : (refF 7 == 3) = true := by decide
  have k3 : markF 7 = true := by decide
  have k4 : markF 6 = false := by decide
  have k5 : (flagF 5 2 == 22) = true := by decide
  have k6 : (stampF 22 == 5) = true := by decide
  have k7 : hasF 22 2 = true := by decide
  have k8 : hasF 22 1 = false := by decide
  have k9 : (topF 1 1 == 1048577) = true := by rw [top_ref ⟨by omega, by omega⟩ ⟨by omega, by omega⟩]; decide
  have k10 : (firstF 1048577 == 1) = true := by decide
  have k11 : (tagF 1048577 == 1) = true := by decide
  have ke : endsF 3 4 = 4194307 := by rw [ends_ref ⟨by omega, by omega⟩ ⟨by omega, by omega⟩]; decide
  have k12 : (firstF (endsF 3 4) == 3) = true := by rw [ke]; decide
  have k13 : (firstF (tagF (endsF 3 4)) == 4) = true := by rw [ke]; decide
  have u1 := ends_u64 3 4
  have u7 : U64 7 := ⟨by omega, by omega⟩
  have u6 : U64 6 := ⟨by omega, by omega⟩
  have u22 : U64 22 := ⟨by omega, by omega⟩
  have u10 : U64 1048577 := ⟨by omega, by omega⟩
  clear ke
  go_enter Try.func23, Try.ntmps23
  go_wp2_with (first
    | (go_at_call 45; refine (ends_any _ _ _).mono ?_; rintro e w' ⟨rfl, rfl⟩)
    | (go_at_call 25; refine (pair_any _ (by assumption) _).mono ?_; rintro e w' ⟨rfl, rfl⟩)
    | (go_at_call 27; refine (link_any _ _ _).mono ?_; rintro e w' ⟨rfl, rfl⟩)
    | (go_at_call 29; refine (ref_any _ (by assumption) _).mono ?_; rintro e w' ⟨rfl, rfl⟩)
    | (go_at_call 31; refine (mark_any _ (by assumption) _).mono ?_; rintro e w' ⟨rfl, rfl⟩)
    | (go_at_call 33; refine (flag_any _ _ _).mono ?_; rintro e w' ⟨rfl, rfl⟩)
    | (go_at_call 35; refine (stamp_any _ _).mono ?_; rintro e w' ⟨rfl, rfl⟩)
    | (go_at_call 37; refine (has_any _ _ (by assumption) _).mono ?_; rintro e w' ⟨rfl, rfl⟩)
    | (go_at_call 39; refine (top_any _ _ _).mono ?_; rintro e w' ⟨rfl, rfl⟩)
    | (go_at_call 41; refine (first_any _ (by assumption) _).mono ?_; rintro e w' ⟨rfl, rfl⟩)
    | (go_at_call 43; refine (tag_any _ _).mono ?_; rintro e w' ⟨rfl, rfl⟩))
  go_ret
  exact ⟨rfl, rfl⟩
end Go.Proofs.Ythncdpopacdekaa
