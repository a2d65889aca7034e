import Derived.Test.YtkdjmfaodojmfaaPoolNextPartH
import Derived.Lib.Hide
import Derived.Test.YtkdjmfaodojmfaaPoolNextPartF
import Derived.Test.YtkdjmfaodojmfaaPoolNextPartG
import Derived.Test.YtkdjmfaodojmfaaPoolNextPartA
import Derived.WalkKit
namespace Go.Proofs.Ytkdjmfaodojmfaa
open Go.RowKit

/-! wealdref11.Cur: Load, Store, Cas. -/
theorem LogV.cur {w w' : World} {g : Nat} {A : Option Addr} {n c : Nat} {rs : List Res} (h : LogV w A n c rs) (hx : ExtB g w w') (hsep : ∀ a, A = some a → 0 < n → a.block ≠ g) : LogV w' A n c rs :=
  ⟨h.len, h.small, fun j r hr => let ⟨a, ha, h1⟩ := h.at_ j r hr; ⟨a, ha, h1.extB hx (hsep a ha (by have := (List.getElem?_eq_some_iff.1 hr).1; have := h.len; omega))⟩⟩
theorem CurAt.ext {w w' : World} {g : Nat} {A : Option Addr} {n c : Nat} {s : Cu} (h : CurAt w g A n c s) (hx : Ext w w') : CurAt w' g A n c s := heap_ext h hx
set_option maxRecDepth 100000 in
theorem cload_any (i : Int) (g : Nat) (A : Option Addr) (n c : Nat) (s : Cu) (rs : List Res) (w : World) (hlog : LogV w A n c rs) (hsep : ∀ a, A = some a → 0 < n → a.block ≠ g) (hcur : CurAt w g A n c s) :
    Calls Try.prog 137 #[.pointer (some ⟨g, 0, none⟩), .int .i64 i] w fun e w' => e = .returned (.int .u64 (s.told rs).n) ∧ CurAt w' g A n c (s.next rs (accL i)) ∧ ExtB g w w' := by
  have hb : ∀ (W : World) (x y : Int), (Instr.build 33 #[(0, .int .i64 x), (1, .int .i64 y)]).run Try.prog W = .ok (.agg #[.int .i64 x, .int .i64 y, .int .u64 0, .int .u64 0, .slice none 0 0, .slice none 0 0]) W := fun _ _ _ => by kernel_rfl
  go_enter Try.func137, Try.ntmps137
  go_wp2_with fail
  refine (rdo_any (accL i) g A n c s rs w hlog hsep hcur).mono ?_
  rintro e w1 ⟨rfl, hC, hx⟩
  obtain ⟨rn, rA, rk, rc, rf, hr⟩ : ∃ rn rA rk rc rf, s.told rs = ⟨rn, rA, rk, rc, rf⟩ := ⟨_, _, _, _, _, rfl⟩
  rw [hr]
  simp only
  have HR := Lib.hid hr
  clear hr
  go_upto_region 2 with (fail)
  have hx1 : Ext w1 (w1.alloc (.cells #[.int .u64 rn, .slice rA rk rc, .bool rf] 130)) := (Below.refl _ w1).alloc (Nat.le_refl _) _
  have hR := heap_alloc_new w1 (.cells #[.int .u64 rn, .slice rA rk rc, .bool rf] 130)
  generalize w1.alloc (.cells #[.int .u64 rn, .slice rA rk rc, .bool rf] 130) = w2 at *
  generalize w1.heap.size = gr at *
  have c0 : w2.cell? ⟨gr, 0, none⟩ = some (.int .u64 rn) := by simp [World.cell?, hR]
  go_wp2
  go_ret
  exact ⟨by rw [HR.out]; rfl, hC.ext hx1, hx.trans (.of hx1)⟩
set_option maxRecDepth 100000 in
theorem ccas_any (i a b : Int) (g : Nat) (A : Option Addr) (n c : Nat) (s : Cu) (rs : List Res) (w : World) (hlog : LogV w A n c rs) (hsep : ∀ a, A = some a → 0 < n → a.block ≠ g) (hcur : CurAt w g A n c s) :
    Calls Try.prog 138 #[.pointer (some ⟨g, 0, none⟩), .int .i64 i, .int .u64 a, .int .u64 b] w fun e w' => e = .returned (.bool ((s.told rs).n == 1)) ∧ CurAt w' g A n c (s.next rs (accC i a b)) ∧ ExtB g w w' := by
  have hb : ∀ (W : World) (x y z u : Int), (Instr.build 33 #[(0, .int .i64 x), (1, .int .i64 y), (2, .int .u64 z), (3, .int .u64 u)]).run Try.prog W = .ok (.agg #[.int .i64 x, .int .i64 y, .int .u64 z, .int .u64 u, .slice none 0 0, .slice none 0 0]) W := fun _ _ _ _ _ => by kernel_rfl
  go_enter Try.func138, Try.ntmps138
  go_wp2_with fail
  refine (rdo_any (accC i a b) g A n c s rs w hlog hsep hcur).mono ?_
  rintro e w1 ⟨rfl, hC, hx⟩
  obtain ⟨rn, rA, rk, rc, rf, hr⟩ : ∃ rn rA rk rc rf, s.told rs = ⟨rn, rA, rk, rc, rf⟩ := ⟨_, _, _, _, _, rfl⟩
  rw [hr]
  simp only
  have HR := Lib.hid hr
  clear hr
  go_upto_region 2 with (fail)
  have hx1 : Ext w1 (w1.alloc (.cells #[.int .u64 rn, .slice rA rk rc, .bool rf] 130)) := (Below.refl _ w1).alloc (Nat.le_refl _) _
  have hR := heap_alloc_new w1 (.cells #[.int .u64 rn, .slice rA rk rc, .bool rf] 130)
  generalize w1.alloc (.cells #[.int .u64 rn, .slice rA rk rc, .bool rf] 130) = w2 at *
  generalize w1.heap.size = gr at *
  have c0 : w2.cell? ⟨gr, 0, none⟩ = some (.int .u64 rn) := by simp [World.cell?, hR]
  go_wp2
  go_ret
  exact ⟨by rw [HR.out]; rfl, hC.ext hx1, hx.trans (.of hx1)⟩
set_option maxRecDepth 100000 in
theorem cstore_any (i a : Int) (g : Nat) (A : Option Addr) (n c : Nat) (s : Cu) (rs : List Res) (w : World) (hlog : LogV w A n c rs) (hsep : ∀ a, A = some a → 0 < n → a.block ≠ g) (hcur : CurAt w g A n c s) :
    Calls Try.prog 139 #[.pointer (some ⟨g, 0, none⟩), .int .i64 i, .int .u64 a] w fun e w' => e = .returned (.tuple #[]) ∧ CurAt w' g A n c (s.next rs (accS i a)) ∧ ExtB g w w' := by
  have hb : ∀ (W : World) (x y z : Int), (Instr.build 33 #[(0, .int .i64 x), (1, .int .i64 y), (2, .int .u64 z)]).run Try.prog W = .ok (.agg #[.int .i64 x, .int .i64 y, .int .u64 z, .int .u64 0, .slice none 0 0, .slice none 0 0]) W := fun _ _ _ _ => by kernel_rfl
  go_enter Try.func139, Try.ntmps139
  go_wp2_with fail
  refine (rdo_any (accS i a) g A n c s rs w hlog hsep hcur).mono ?_
  rintro e w1 ⟨rfl, hC, hx⟩
  go_wp2
  refine bodyPost_end (v := .tuple #[]) (by simp [results, Try.results139, go_sem]) rfl ⟨rfl, hC, hx⟩
end Go.Proofs.Ytkdjmfaodojmfaa

namespace Go.Proofs.Ytkdjmfaodojmfaa
open Go.RowKit

/-! The document's text (wealdref08), and 'shown'. -/
def isRefB (r : Int) : Bool := decide (0 ≤ r) && decide (r < 1048576)
theorem isRefB_true {r : Int} (h : isRefB r = true) : isRef r := by simpa [isRefB, isRef] using h
theorem is_any (r : Int) (w : World) :
    Calls Try.prog 30 #[.int .i64 r] w fun e w' => e = .returned (.bool (isRefB r)) ∧ w = w' := by
  by_cases h0 : 0 ≤ r
  · go_enter Try.func30, Try.ntmps30
    go_wp2
    all_goals go_ret
    all_goals exact ⟨ret_bool (by simp [isRefB, h0]), rfl⟩
  · have h1 : decide (0 ≤ r) = false := by simpa using h0
    go_enter Try.func30, Try.ntmps30
    go_wp2
    all_goals go_ret
    all_goals exact ⟨ret_bool (by simp [isRefB]; omega), rfl⟩
theorem rlink_ref (r : Int) (hr : isRef r) (m : Bool) (w : World) :
    Calls Try.prog 34 #[.int .i64 r, .bool m] w fun e w' => e = .returned (.int .u64 (linkF r m)) ∧ w = w' := by
  have hr' := hr
  obtain ⟨h0, h1⟩ := hr'
  cases m
  all_goals
    go_enter Try.func34, Try.ntmps34
    go_wp2
    go_ret
    refine ⟨ret_int ?_, rfl⟩
    rw [link_ref hr]; simp
theorem rref_any (n : Int) (h : U64 n) (w : World) :
    Calls Try.prog 36 #[.int .u64 n] w fun e w' => e = .returned (.int .i64 (refF n)) ∧ w = w' := by
  have h0 := h.1
  have h9 := h.2
  go_enter Try.func36, Try.ntmps36
  go_wp2
  go_ret
  exact ⟨ret_int (by simp [refF]), rfl⟩
theorem rmark_any (n : Int) (h : U64 n) (w : World) :
    Calls Try.prog 38 #[.int .u64 n] w fun e w' => e = .returned (.bool (markF n)) ∧ w = w' := by
  have h0 := h.1
  have h9 := h.2
  go_enter Try.func38, Try.ntmps38
  go_wp2
  go_ret
  exact ⟨ret_bool (by simp [markF]), rfl⟩
theorem rflag_any (s b : Int) (hs : U64 s) (w : World) :
    Calls Try.prog 40 #[.int .u64 s, .int .i64 b] w fun e w' => e = .returned (.int .u64 (flagF s b)) ∧ w = w' := by
  have h0 := hs.1
  have hb := (u64_wrap b).1
  go_enter Try.func40, Try.ntmps40
  go_wp2
  go_ret
  refine ⟨ret_int ?_, rfl⟩
  rw [flag_eq s b hs]; simp
  try rw [wrap_u64_mod b 4 rfl (by omega)]
theorem rstamp_any (n : Int) (h : U64 n) (w : World) :
    Calls Try.prog 42 #[.int .u64 n] w fun e w' => e = .returned (.int .u64 (stampF n)) ∧ w = w' := by
  have h0 := h.1
  have h9 := h.2
  go_enter Try.func42, Try.ntmps42
  go_wp2
  go_ret
  exact ⟨ret_int (by simp [stampF]), rfl⟩
theorem rhas_any (n b : Int) (h : U64 n) (w : World) :
    Calls Try.prog 44 #[.int .u64 n, .int .i64 b] w fun e w' => e = .returned (.bool (hasF n b)) ∧ w = w' := by
  have h0 := h.1
  have h9 := h.2
  have hb := u64_wrap b
  have hb0 := hb.1
  have hb1 := hb.2
  have e : IntKind.u64.wrap b % 4 = b % 4 := wrap_u64_mod b 4 rfl (by omega)
  have e' : hasF n b = hasB n (IntKind.u64.wrap b % 4) := by unfold hasF; rw [e]
  rw [e']
  clear e e'
  have hm : IntKind.u64.wrap b % 4 = 0 ∨ IntKind.u64.wrap b % 4 = 1 ∨ IntKind.u64.wrap b % 4 = 2 ∨ IntKind.u64.wrap b % 4 = 3 := by omega
  rcases hm with hm | hm | hm | hm <;> rw [hm]
  · go_enter Try.func44, Try.ntmps44
    go_wp2
    go_ret
    exact ⟨rfl, rfl⟩
  · cases h2 : (n % 2 == 1)
    all_goals
      go_enter Try.func44, Try.ntmps44
      go_wp2
      go_ret
      exact ⟨ret_bool (by simp [hasB, h2]), rfl⟩
  · cases h2 : (n / 2 % 2 == 1)
    all_goals
      go_enter Try.func44, Try.ntmps44
      go_wp2
      go_ret
      exact ⟨ret_bool (by simp [hasB, h2]), rfl⟩
  · cases h2 : (n % 2 == 1)
    · go_enter Try.func44, Try.ntmps44
      go_wp2
      go_ret
      exact ⟨ret_bool (by simp [hasB, h2]), rfl⟩
    · cases h3 : (n / 2 % 2 == 1)
      all_goals
        go_enter Try.func44, Try.ntmps44
        go_wp2
        go_ret
        exact ⟨ret_bool (by simp [hasB, h2, h3]), rfl⟩
theorem rtop_ref (r t : Int) (hr : isRef r) (ht : U64 t) (w : World) :
    Calls Try.prog 46 #[.int .i64 r, .int .u64 t] w fun e w' => e = .returned (.int .u64 (topF r t)) ∧ w = w' := by
  have hr' := hr
  obtain ⟨h0, h1⟩ := hr'
  have h2 := ht.1
  go_enter Try.func46, Try.ntmps46
  go_wp2
  go_ret
  exact ⟨ret_int (top_ref hr ht).symm, rfl⟩
theorem rfirst_any (n : Int) (h : U64 n) (w : World) :
    Calls Try.prog 48 #[.int .u64 n] w fun e w' => e = .returned (.int .i64 (firstF n)) ∧ w = w' := by
  have h0 := h.1
  have h9 := h.2
  go_enter Try.func48, Try.ntmps48
  go_wp2
  go_ret
  exact ⟨ret_int (by simp [firstF]), rfl⟩
theorem rtag_any (n : Int) (h : U64 n) (w : World) :
    Calls Try.prog 24 #[.int .u64 n] w fun e w' => e = .returned (.int .u64 (tagF n)) ∧ w = w' := by
  have h0 := h.1
  have h9 := h.2
  go_enter Try.func24, Try.ntmps24
  go_wp2
  go_ret
  exact ⟨ret_int (by simp [tagF]), rfl⟩
theorem rends_ref (u v : Int) (hu : isRef u) (hv : isRef v) (w : World) :
    Calls Try.prog 51 #[.int .i64 u, .int .i64 v] w fun e w' => e = .returned (.int .u64 (endsF u v)) ∧ w = w' := by
  have hu' := hu
  have hv' := hv
  obtain ⟨h0, h1⟩ := hu'
  obtain ⟨h2, h3⟩ := hv'
  go_enter Try.func51, Try.ntmps51
  go_wp2
  go_ret
  exact ⟨ret_int (ends_ref hu hv).symm, rfl⟩
theorem rpair_any (n : Int) (h : U64 n) (w : World) :
    Calls Try.prog 32 #[.int .u64 n] w fun e w' => e = .returned (.tuple #[.int .i64 (firstF n), .int .i64 (firstF (tagF n))]) ∧ w = w' := by
  have h0 := h.1
  have h9 := h.2
  go_enter Try.func32, Try.ntmps32
  go_wp2
  go_ret2
  exact ⟨by simp [firstF, tagF], rfl⟩

theorem shown8_any (w : World) :
    Calls Try.prog 29 #[] w fun e w' => e = .returned (.bool true) ∧ w = w' := by
  have k1 : (linkF 3 true == 7) = true := by decide
  have k2 : (refF 7 == 3) = true := by decide
  have k3 : markF 7 = true := by decide
  have k4 : markF 6 = false := by decide
  have k5 : (flagF 5 2 == 22) = true := by decide
  have k6 : (stampF 22 == 5) = true := by decide
  have k7 : hasF 22 2 = true := by decide
  have k8 : hasF 22 1 = false := by decide
  have k9 : (topF 1 1 == 1048577) = true := by rw [top_ref ⟨by omega, by omega⟩ ⟨by omega, by omega⟩]; decide
  have k10 : (firstF 1048577 == 1) = true := by decide
  have k11 : (tagF 1048577 == 1) = true := by decide
  have ke : endsF 3 4 = 4194307 := by rw [ends_ref ⟨by omega, by omega⟩ ⟨by omega, by omega⟩]; decide
  have k12 : (firstF (endsF 3 4) == 3) = true := by rw [ke]; decide
  have k13 : (firstF (tagF (endsF 3 4)) == 4) = true := by rw [ke]; decide
  have u1 := ends_u64 3 4
  have u7 : U64 7 := ⟨by omega, by omega⟩
  have u6 : U64 6 := ⟨by omega, by omega⟩
  have u22 : U64 22 := ⟨by omega, by omega⟩
  have u10 : U64 1048577 := ⟨by omega, by omega⟩
  clear ke
  go_enter Try.func29, Try.ntmps29
  go_wp2_with (first
    | (go_at_call 50; refine (ends_any _ _ _).mono ?_; rintro e w' ⟨rfl, rfl⟩)
    | (go_at_call 31; refine (pair_any _ (by assumption) _).mono ?_; rintro e w' ⟨rfl, rfl⟩)
    | (go_at_call 33; refine (link_any _ _ _).mono ?_; rintro e w' ⟨rfl, rfl⟩)
    | (go_at_call 35; refine (ref_any _ (by assumption) _).mono ?_; rintro e w' ⟨rfl, rfl⟩)
    | (go_at_call 37; refine (mark_any _ (by assumption) _).mono ?_; rintro e w' ⟨rfl, rfl⟩)
    | (go_at_call 39; refine (flag_any _ _ _).mono ?_; rintro e w' ⟨rfl, rfl⟩)
    | (go_at_call 41; refine (stamp_any _ _).mono ?_; rintro e w' ⟨rfl, rfl⟩)
    | (go_at_call 43; refine (has_any _ _ (by assumption) _).mono ?_; rintro e w' ⟨rfl, rfl⟩)
    | (go_at_call 45; refine (top_any _ _ _).mono ?_; rintro e w' ⟨rfl, rfl⟩)
    | (go_at_call 47; refine (first_any _ (by assumption) _).mono ?_; rintro e w' ⟨rfl, rfl⟩)
    | (go_at_call 49; refine (tag_any _ _).mono ?_; rintro e w' ⟨rfl, rfl⟩))
  go_ret
  exact ⟨rfl, rfl⟩
end Go.Proofs.Ytkdjmfaodojmfaa

namespace Go.Proofs.Ytkdjmfaodojmfaa
open Go.RowKit

/-! wealdref12.Pop, wealdref12.Push: what popN and pushN say. -/
def Cu.after (rs : List Res) (s : Cu) : ProgE → Cu
  | .stop x => ⟨rs.length, true, x⟩
  | .ret _ k => ⟨k, false, s.x⟩
def ProgE.val : ProgE → Int
  | .stop _ => 0
  | .ret r _ => r
theorem rfieldB_any (t r : Int) (h1 : 0 ≤ t) (h2 : t ≤ 64) (h3 : 0 ≤ r) (h4 : r ≤ 1048576) (w : World) :
    Calls Try.prog 65 #[.int .i64 t, .int .i64 r, .int .i64 7] w fun e w' => e = .returned (.int .i64 (linkI t r)) ∧ w = w' :=
  (rfield_any t r 7 (by omega) (by omega) (by omega) (by omega) (by omega) (by omega) w).mono fun _ _ ⟨he, hw⟩ => ⟨by rw [he]; rfl, hw⟩
theorem Cu.on {rs : List Res} {s : Cu} {y : Acc} {r : Res} {R : List Res} (hs : s.stop = false) (h : rs.drop s.i = r :: R) : s.told rs = r ∧ s.next rs y = ⟨s.i + 1, false, s.x⟩ ∧ rs.drop (s.i + 1) = R := by
  have h1 : s.i < rs.length := by
    rcases Nat.lt_or_ge s.i rs.length with h' | h'
    · exact h'
    · rw [List.drop_eq_nil_of_le h'] at h; cases h
  have h2 : rs[s.i]? = some r := by rw [List.getElem?_eq_getElem h1]; rw [List.drop_eq_getElem_cons h1] at h; injection h with h _; rw [h]
  refine ⟨by simp [Cu.told, hs, h2], by simp [Cu.next, hs, h1], ?_⟩
  rw [show rs.drop (s.i + 1) = (rs.drop s.i).drop 1 by rw [List.drop_drop], h]; rfl
theorem Cu.off {rs : List Res} {s : Cu} {y : Acc} (hs : s.stop = false) (h : rs.drop s.i = []) (hi : s.i ≤ rs.length) : s.told rs = Res.zero ∧ s.next rs y = ⟨rs.length, true, y⟩ := by
  have h1 : s.i = rs.length := by
    rcases Nat.lt_or_ge s.i rs.length with h' | h'
    · rw [List.drop_eq_getElem_cons h'] at h; cases h
    · omega
  refine ⟨by simp [Cu.told, hs, h1], by simp [Cu.next, hs, h1]⟩
theorem Cu.still {rs : List Res} {s : Cu} {y : Acc} (hs : s.stop = true) : s.told rs = Res.zero ∧ s.next rs y = s := by simp [Cu.told, Cu.next, hs]
def curM (g : Nat) (w : World) : Nat := match w.cell? ⟨g, 2, none⟩ with
  | some (.bool true) => 0
  | _ => match w.cell? ⟨g, 1, none⟩ with
    | some (.int _ i) => 65537 - i.toNat
    | _ => 0
theorem CurAt.cells {w : World} {g : Nat} {A : Option Addr} {n c : Nat} {s : Cu} (h : CurAt w g A n c s) : w.cell? ⟨g, 1, none⟩ = some (.int .i64 (s.i : Int)) ∧ w.cell? ⟨g, 2, none⟩ = some (.bool s.stop) := by
  unfold CurAt curCells at h
  simp [World.cell?, h]
theorem CurAt.m {w : World} {g : Nat} {A : Option Addr} {n c : Nat} {s : Cu} (h : CurAt w g A n c s) : curM g w = if s.stop then 0 else 65537 - s.i := by
  obtain ⟨h1, h2⟩ := h.cells
  unfold curM
  rw [h2, h1]
  cases s.stop <;> simp
theorem first0 : firstF 0 = 0 := rfl
set_option maxRecDepth 100000 in
set_option maxHeartbeats 4000000 in
theorem rpop_any (t : Int) (g : Nat) (A : Option Addr) (n c : Nat) (s : Cu) (rs : List Res) (w : World) (hlog : LogV w A n c rs) (hsep : ∀ a, A = some a → 0 < n → a.block ≠ g) (hcur : CurAt w g A n c s) (hs : s.stop = false) (hi : s.i ≤ rs.length) (ht1 : 0 ≤ t) (ht2 : t ≤ 64) (hU : GoodR rs) :
    Calls Try.prog 112 #[.pointer (some ⟨g, 0, none⟩), .int .i64 t] w fun e w' => e = .returned (.int .i64 (popN t s.i ((rs.map Res.n).drop s.i)).val) ∧ CurAt w' g A n c (s.after rs (popN t s.i ((rs.map Res.n).drop s.i))) ∧ ExtB g w w' := by
  obtain ⟨P, hP⟩ : ∃ P, popN t s.i ((rs.map Res.n).drop s.i) = P := ⟨_, rfl⟩
  have HP := Lib.hid hP
  clear hP
  have hsm : rs.length ≤ 65536 := by rw [hlog.len]; exact hlog.small
  go_enter Try.func112, Try.ntmps112
  go_wp2
  go_loopw [4] (fun rv wr => ∃ s' : Cu, rv = .int .i64 0 ∧ CurAt wr g A n c s' ∧ ExtB g w wr ∧ ((s'.stop = false ∧ s'.i ≤ rs.length ∧ s'.x = s.x ∧ popN t s'.i ((rs.map Res.n).drop s'.i) = P) ∨ (s'.stop = true ∧ ∃ x, P = .stop x ∧ s' = ⟨rs.length, true, x⟩))) (fun _ wr => curM g wr)
  case atStart => exact ⟨s, rfl, hcur, ExtB.refl _ _, .inl ⟨hs, hi, rfl, HP.out⟩⟩
  case round =>
    obtain ⟨s', rfl, hC, hB, hst⟩ := hrel
    have hL := hlog.cur hB hsep
    obtain ⟨-, c2⟩ := hC.cells
    have hm := hC.m
    rcases hst with ⟨h1, h2, h3, h4⟩ | ⟨h1, x, rfl, rfl⟩
    · rw [h1] at c2 hm
      simp only [Bool.false_eq_true, if_false] at hm
      have HM := Lib.hid hm
      have H4 := Lib.hid h4
      clear hm h4
      go_wp2_with fail
      refine (cload_any 1 g A n c s' rs _ hL hsep hC).mono ?_
      rintro e w1 ⟨rfl, hC1, hx1⟩
      clear c2 hC
      replace hB := hB.trans hx1
      replace hL := hL.cur hx1 hsep
      cases hR : rs.drop s'.i with
      | nil =>
        obtain ⟨e1, e2⟩ := Cu.off (y := accL 1) h1 hR h2
        rw [e1]
        rw [e2] at hC1
        have hPe : P = .stop (accL 1) := by rw [← H4.out, ← List.map_drop, hR]; rfl
        simp only [Res.zero]
        go_wp2_with fail
        refine (rfirst_any 0 (by unfold U64; omega) _).mono ?_
        rintro e w' ⟨rfl, rfl⟩
        rw [first0]
        go_wp2
        go_ret
        exact ⟨by rw [HP.out, hPe]; rfl, by rw [HP.out, hPe]; exact hC1, hB⟩
      | cons r1 R1 =>
        obtain ⟨e1, e2, e3⟩ := Cu.on (y := accL 1) h1 hR
        rw [e1]
        rw [e2] at hC1
        have hU1 : U64 r1.n := hU.drop s'.i r1 (by rw [hR]; simp)
        obtain ⟨hf0, hf1⟩ := firstF_rng hU1
        go_wp2_with fail
        refine (rfirst_any _ hU1 _).mono ?_
        rintro e w' ⟨rfl, rfl⟩
        by_cases h0 : firstF r1.n = 0
        · have hPe : P = .ret 0 (s'.i + 1) := by
            rw [← H4.out, ← List.map_drop, hR]
            rcases R1 with _ | ⟨r2, _ | ⟨r3, R3⟩⟩ <;> simp [popN, h0]
          rw [h0]
          go_wp2
          go_ret
          exact ⟨by rw [HP.out, hPe]; rfl, by rw [HP.out, hPe]; simpa [Cu.after, h3] using hC1, hB⟩
        · go_wp2_with fail
          refine (rfieldB_any t _ ht1 ht2 hf0 (by omega) _).mono ?_
          rintro e w' ⟨rfl, rfl⟩
          go_wp2_with fail
          refine (cload_any _ g A n c _ rs _ hL hsep hC1).mono ?_
          rintro e w2 ⟨rfl, hC2, hx2⟩
          replace hB := hB.trans hx2
          replace hL := hL.cur hx2 hsep
          cases hR1 : R1 with
          | nil =>
            obtain ⟨d1, d2⟩ := Cu.off (s := ⟨s'.i + 1, false, s'.x⟩) (y := accL (linkI t (firstF r1.n))) rfl (by simpa [hR1] using e3) (by have := congrArg List.length hR; simp at this; simp only; omega)
            rw [d1]
            rw [d2] at hC2
            have hPe : P = .stop (accL (linkI t (firstF r1.n))) := by rw [← H4.out, ← List.map_drop, hR, hR1]; simp [popN, h0]
            simp only [Res.zero]
            go_wp2_with fail
            refine (rfirst_any 0 (by unfold U64; omega) _).mono ?_
            rintro e w' ⟨rfl, rfl⟩
            rw [first0]
            go_wp2_with fail
            refine (rtag_any _ hU1 _).mono ?_
            rintro e w' ⟨rfl, rfl⟩
            have htU := tagF_rng hU1
            have hwr : IntKind.u64.wrap (tagF r1.n + 1) = (tagF r1.n + 1) % 18446744073709551616 := IntKind.wrap_u64 _
            have htg : U64 ((tagF r1.n + 1) % 18446744073709551616) := by unfold U64; omega
            have htn : topF (0) ((tagF r1.n + 1) % 18446744073709551616) = topN (0) r1.n := rfl
            generalize (tagF r1.n + 1) % 18446744073709551616 = tg at *
            go_wp2_with fail
            refine (rtop_ref _ _ (by unfold isRef; omega) htg _).mono ?_
            rintro e w' ⟨rfl, rfl⟩
            rw [htn]
            clear hwr htg htn htU
            go_wp2_with fail
            refine (ccas_any _ _ _ g A n c _ rs _ hL hsep hC2).mono ?_
            rintro e w3 ⟨rfl, hC3, hx3⟩
            rw [(Cu.still (rs := rs) (y := accC 1 0 0) (s := ⟨rs.length, true, accL (linkI t (firstF r1.n))⟩) rfl).1]
            rw [(Cu.still (rs := rs) rfl).2] at hC3
            simp only [Res.zero]
            have hm3 := hC3.m
            simp only [if_true] at hm3
            go_wp2
            go_roundw
            case rel => exact ⟨_, rfl, hC3, hB.trans hx3, .inr ⟨rfl, _, hPe, rfl⟩⟩
            case measure => rw [HM.out, hm3]; omega
          | cons r2 R2 =>
            obtain ⟨d1, d2, d3⟩ := Cu.on (s := ⟨s'.i + 1, false, s'.x⟩) (y := accL (linkI t (firstF r1.n))) rfl (by simpa [hR1] using e3)
            rw [d1]
            rw [d2] at hC2
            simp only at hC2 d3
            have hU2 : U64 r2.n := hU.drop s'.i r2 (by rw [hR, hR1]; simp)
            obtain ⟨hg0, hg1⟩ := firstF_rng hU2
            go_wp2_with fail
            refine (rfirst_any _ hU2 _).mono ?_
            rintro e w' ⟨rfl, rfl⟩
            go_wp2_with fail
            refine (rtag_any _ hU1 _).mono ?_
            rintro e w' ⟨rfl, rfl⟩
            have htU := tagF_rng hU1
            have hwr : IntKind.u64.wrap (tagF r1.n + 1) = (tagF r1.n + 1) % 18446744073709551616 := IntKind.wrap_u64 _
            have htg : U64 ((tagF r1.n + 1) % 18446744073709551616) := by unfold U64; omega
            have htn : topF (firstF r2.n) ((tagF r1.n + 1) % 18446744073709551616) = topN (firstF r2.n) r1.n := rfl
            generalize (tagF r1.n + 1) % 18446744073709551616 = tg at *
            go_wp2_with fail
            refine (rtop_ref _ _ (by unfold isRef; omega) htg _).mono ?_
            rintro e w' ⟨rfl, rfl⟩
            rw [htn]
            clear hwr htg htn htU
            go_wp2_with fail
            refine (ccas_any _ _ _ g A n c _ rs _ hL hsep hC2).mono ?_
            rintro e w3 ⟨rfl, hC3, hx3⟩
            cases hR2 : R2 with
            | nil =>
              obtain ⟨f1, f2⟩ := Cu.off (s := ⟨s'.i + 1 + 1, false, s'.x⟩) (y := accC 1 r1.n (topN (firstF r2.n) r1.n)) rfl (by simpa [hR2] using d3) (by have := congrArg List.length hR; rw [hR1] at this; simp at this; simp only; omega)
              rw [f1]
              rw [f2] at hC3
              have hPe : P = .stop (accC 1 r1.n (topN (firstF r2.n) r1.n)) := by rw [← H4.out, ← List.map_drop, hR, hR1, hR2]; simp [popN, h0]
              simp only [Res.zero]
              have hm3 := hC3.m
              simp only [if_true] at hm3
              go_wp2
              go_roundw
              case rel => exact ⟨_, rfl, hC3, hB.trans hx3, .inr ⟨rfl, _, hPe, rfl⟩⟩
              case measure => rw [HM.out, hm3]; omega
            | cons r3 R3 =>
              obtain ⟨f1, f2, f3⟩ := Cu.on (s := ⟨s'.i + 1 + 1, false, s'.x⟩) (y := accC 1 r1.n (topN (firstF r2.n) r1.n)) rfl (by simpa [hR2] using d3)
              rw [f1]
              rw [f2] at hC3
              simp only at hC3 f3
              by_cases hn1 : r3.n = 1
              · have hPe : P = .ret (firstF r1.n) (s'.i + 3) := by rw [← H4.out, ← List.map_drop, hR, hR1, hR2]; simp [popN, h0, hn1]
                have hb1 : (r3.n == 1) = true := by simp [hn1]
                rw [hb1]
                go_wp2
                go_ret
                exact ⟨by rw [HP.out, hPe]; rfl, by rw [HP.out, hPe]; simpa [Cu.after, h3] using hC3, hB.trans hx3⟩
              · have hPe : popN t (s'.i + 1 + 1 + 1) ((rs.map Res.n).drop (s'.i + 1 + 1 + 1)) = P := by
                  rw [← H4.out, ← List.map_drop, ← List.map_drop, f3, hR, hR1, hR2]; simp [popN, h0, hn1]
                have hb1 : (r3.n == 1) = false := by simp [hn1]
                have hm3 := hC3.m
                simp only [Bool.false_eq_true, if_false] at hm3
                have hll : s'.i + 1 + 1 + 1 ≤ rs.length := by have := congrArg List.length hR; rw [hR1, hR2] at this; simp at this; omega
                have HPE := Lib.hid hPe
                have HM3 := Lib.hid hm3
                clear hPe hm3
                rw [hb1]
                go_wp2
                go_roundw
                case rel => exact ⟨_, rfl, hC3, hB.trans hx3, .inl ⟨rfl, hll, h3, HPE.out⟩⟩
                case measure => rw [HM.out, HM3.out]; omega
    · simp only at c2
      go_wp2
      go_ret
      exact ⟨by rw [HP.out]; rfl, by rw [HP.out]; exact hC, hB⟩
end Go.Proofs.Ytkdjmfaodojmfaa

namespace Go.Proofs.Ytkdjmfaodojmfaa
open Go.RowKit

set_option maxRecDepth 100000 in
set_option maxHeartbeats 4000000 in
theorem rpush_any (t r : Int) (g : Nat) (A : Option Addr) (n c : Nat) (s : Cu) (rs : List Res) (w : World) (hlog : LogV w A n c rs) (hsep : ∀ a, A = some a → 0 < n → a.block ≠ g) (hcur : CurAt w g A n c s) (hs : s.stop = false) (hi : s.i ≤ rs.length) (ht1 : 0 ≤ t) (ht2 : t ≤ 64) (hr1 : 0 ≤ r) (hr2 : r < 1048576) (hU : GoodR rs) :
    Calls Try.prog 113 #[.pointer (some ⟨g, 0, none⟩), .int .i64 t, .int .i64 r] w fun e w' => e = .returned (.tuple #[]) ∧ CurAt w' g A n c (s.after rs (pushN t r s.i ((rs.map Res.n).drop s.i))) ∧ ExtB g w w' := by
  obtain ⟨P, hP⟩ : ∃ P, pushN t r s.i ((rs.map Res.n).drop s.i) = P := ⟨_, rfl⟩
  have HP := Lib.hid hP
  clear hP
  have hsm : rs.length ≤ 65536 := by rw [hlog.len]; exact hlog.small
  have hU0 : U64 0 := by unfold U64; omega
  have hw0 : IntKind.u64.wrap (firstF 0) = 0 := by rw [first0, IntKind.wrap_u64]; rfl
  go_enter Try.func113, Try.ntmps113
  go_wp2
  go_loopw [7] (fun _ wr => ∃ s' : Cu, CurAt wr g A n c s' ∧ ExtB g w wr ∧ ((s'.stop = false ∧ s'.i ≤ rs.length ∧ s'.x = s.x ∧ pushN t r s'.i ((rs.map Res.n).drop s'.i) = P) ∨ (s'.stop = true ∧ ∃ x, P = .stop x ∧ s' = ⟨rs.length, true, x⟩))) (fun _ wr => curM g wr)
  case atStart => exact ⟨s, hcur, ExtB.refl _ _, .inl ⟨hs, hi, rfl, HP.out⟩⟩
  case round =>
    obtain ⟨s', hC, hB, hst⟩ := hrel
    have hL := hlog.cur hB hsep
    obtain ⟨-, c2⟩ := hC.cells
    have hm := hC.m
    rcases hst with ⟨h1, h2, h3, h4⟩ | ⟨h1, x, rfl, rfl⟩
    · rw [h1] at c2 hm
      simp only [Bool.false_eq_true, if_false] at hm
      have HM := Lib.hid hm
      have H4 := Lib.hid h4
      clear hm h4
      go_wp2_with fail
      refine (cload_any 1 g A n c s' rs _ hL hsep hC).mono ?_
      rintro e w1 ⟨rfl, hC1, hx1⟩
      clear c2 hC
      replace hB := hB.trans hx1
      replace hL := hL.cur hx1 hsep
      cases hR : rs.drop s'.i with
      | nil =>
        obtain ⟨e1, e2⟩ := Cu.off (y := accL 1) h1 hR h2
        rw [e1]
        rw [e2] at hC1
        have hPe : P = .stop (accL 1) := by rw [← H4.out, ← List.map_drop, hR]; rfl
        simp only [Res.zero]
        go_wp2_with fail
        refine (rfieldB_any t r ht1 ht2 hr1 (by omega) _).mono ?_
        rintro e w' ⟨rfl, rfl⟩
        go_wp2_with fail
        refine (rfirst_any 0 hU0 _).mono ?_
        rintro e w' ⟨rfl, rfl⟩
        go_wp2_with fail
        refine (cstore_any _ _ g A n c _ rs _ hL hsep hC1).mono ?_
        rintro e w2 ⟨rfl, hC2, hx2⟩
        rw [(Cu.still (rs := rs) rfl).2] at hC2
        replace hB := hB.trans hx2
        replace hL := hL.cur hx2 hsep
        go_wp2_with fail
        refine (rtag_any _ hU0 _).mono ?_
        rintro e w' ⟨rfl, rfl⟩
        have htU := tagF_rng hU0
        have hwr : IntKind.u64.wrap (tagF 0 + 1) = (tagF 0 + 1) % 18446744073709551616 := IntKind.wrap_u64 _
        have htg : U64 ((tagF 0 + 1) % 18446744073709551616) := by unfold U64; omega
        have htn : topF r ((tagF 0 + 1) % 18446744073709551616) = topN r (0) := rfl
        generalize (tagF 0 + 1) % 18446744073709551616 = tg at *
        go_wp2_with fail
        refine (rtop_ref _ _ (by unfold isRef; omega) htg _).mono ?_
        rintro e w' ⟨rfl, rfl⟩
        rw [htn]
        clear hwr htg htn htU
        go_wp2_with fail
        refine (ccas_any _ _ _ g A n c _ rs _ hL hsep hC2).mono ?_
        rintro e w3 ⟨rfl, hC3, hx3⟩
        rw [(Cu.still (rs := rs) (y := accC 1 0 0) (s := ⟨rs.length, true, accL 1⟩) rfl).1]
        rw [(Cu.still (rs := rs) rfl).2] at hC3
        simp only [Res.zero]
        have hm3 := hC3.m
        simp only [if_true] at hm3
        go_wp2
        go_roundw
        case rel => exact ⟨_, hC3, hB.trans hx3, .inr ⟨rfl, _, hPe, rfl⟩⟩
        case measure => rw [HM.out, hm3]; omega
      | cons r1 R1 =>
        obtain ⟨e1, e2, e3⟩ := Cu.on (y := accL 1) h1 hR
        rw [e1]
        rw [e2] at hC1
        have hU1 : U64 r1.n := hU.drop s'.i r1 (by rw [hR]; simp)
        obtain ⟨hf0, hf1⟩ := firstF_rng hU1
        have hfw : IntKind.u64.wrap (firstF r1.n) = firstF r1.n := by rw [IntKind.wrap_u64]; omega
        go_wp2_with fail
        refine (rfieldB_any t r ht1 ht2 hr1 (by omega) _).mono ?_
        rintro e w' ⟨rfl, rfl⟩
        go_wp2_with fail
        refine (rfirst_any _ hU1 _).mono ?_
        rintro e w' ⟨rfl, rfl⟩
        go_wp2_with fail
        refine (cstore_any _ _ g A n c _ rs _ hL hsep hC1).mono ?_
        rintro e w2 ⟨rfl, hC2, hx2⟩
        replace hB := hB.trans hx2
        replace hL := hL.cur hx2 hsep
        go_wp2_with fail
        refine (rtag_any _ hU1 _).mono ?_
        rintro e w' ⟨rfl, rfl⟩
        have htU := tagF_rng hU1
        have hwr : IntKind.u64.wrap (tagF r1.n + 1) = (tagF r1.n + 1) % 18446744073709551616 := IntKind.wrap_u64 _
        have htg : U64 ((tagF r1.n + 1) % 18446744073709551616) := by unfold U64; omega
        have htn : topF r ((tagF r1.n + 1) % 18446744073709551616) = topN r (r1.n) := rfl
        generalize (tagF r1.n + 1) % 18446744073709551616 = tg at *
        go_wp2_with fail
        refine (rtop_ref _ _ (by unfold isRef; omega) htg _).mono ?_
        rintro e w' ⟨rfl, rfl⟩
        rw [htn]
        clear hwr htg htn htU
        go_wp2_with fail
        refine (ccas_any _ _ _ g A n c _ rs _ hL hsep hC2).mono ?_
        rintro e w3 ⟨rfl, hC3, hx3⟩
        cases hR1 : R1 with
        | nil =>
          obtain ⟨d1, d2⟩ := Cu.off (s := ⟨s'.i + 1, false, s'.x⟩) (y := accS (linkI t r) (firstF r1.n)) rfl (by simpa [hR1] using e3) (by have := congrArg List.length hR; simp at this; simp only; omega)
          rw [d2] at hC3 ⊢
          rw [(Cu.still (rs := rs) (y := accC 1 0 0) (s := ⟨rs.length, true, accS (linkI t r) (firstF r1.n)⟩) rfl).1]
          rw [(Cu.still (rs := rs) rfl).2] at hC3
          have hPe : P = .stop (accS (linkI t r) (firstF r1.n)) := by rw [← H4.out, ← List.map_drop, hR, hR1]; rfl
          simp only [Res.zero]
          have hm3 := hC3.m
          simp only [if_true] at hm3
          go_wp2
          go_roundw
          case rel => exact ⟨_, hC3, hB.trans hx3, .inr ⟨rfl, _, hPe, rfl⟩⟩
          case measure => rw [HM.out, hm3]; omega
        | cons r2 R2 =>
          obtain ⟨d1, d2, d3⟩ := Cu.on (s := ⟨s'.i + 1, false, s'.x⟩) (y := accS (linkI t r) (firstF r1.n)) rfl (by simpa [hR1] using e3)
          rw [d2] at hC3 ⊢
          simp only at hC3 d3
          cases hR2 : R2 with
          | nil =>
            obtain ⟨f1, f2⟩ := Cu.off (s := ⟨s'.i + 1 + 1, false, s'.x⟩) (y := accC 1 r1.n (topN r r1.n)) rfl (by simpa [hR2] using d3) (by have := congrArg List.length hR; rw [hR1] at this; simp at this; simp only; omega)
            rw [f1]
            rw [f2] at hC3
            have hPe : P = .stop (accC 1 r1.n (topN r r1.n)) := by rw [← H4.out, ← List.map_drop, hR, hR1, hR2]; rfl
            simp only [Res.zero]
            have hm3 := hC3.m
            simp only [if_true] at hm3
            go_wp2
            go_roundw
            case rel => exact ⟨_, hC3, hB.trans hx3, .inr ⟨rfl, _, hPe, rfl⟩⟩
            case measure => rw [HM.out, hm3]; omega
          | cons r3 R3 =>
            obtain ⟨f1, f2, f3⟩ := Cu.on (s := ⟨s'.i + 1 + 1, false, s'.x⟩) (y := accC 1 r1.n (topN r r1.n)) rfl (by simpa [hR2] using d3)
            rw [f1]
            rw [f2] at hC3
            simp only at hC3 f3
            by_cases hn1 : r3.n = 1
            · have hPe : P = .ret 0 (s'.i + 3) := by rw [← H4.out, ← List.map_drop, hR, hR1, hR2]; simp [pushN, hn1]
              have hb1 : (r3.n == 1) = true := by simp [hn1]
              rw [hb1]
              go_wp2
              refine bodyPost_ret (v := .tuple #[]) (by simp [results, Try.results113, go_sem]) rfl ⟨rfl, by rw [HP.out, hPe]; simpa [Cu.after, h3] using hC3, hB.trans hx3⟩
            · have hPe : pushN t r (s'.i + 1 + 1 + 1) ((rs.map Res.n).drop (s'.i + 1 + 1 + 1)) = P := by
                rw [← H4.out, ← List.map_drop, ← List.map_drop, f3, hR, hR1, hR2]; simp [pushN, hn1]
              have hb1 : (r3.n == 1) = false := by simp [hn1]
              have hm3 := hC3.m
              simp only [Bool.false_eq_true, if_false] at hm3
              have hll : s'.i + 1 + 1 + 1 ≤ rs.length := by have := congrArg List.length hR; rw [hR1, hR2] at this; simp at this; omega
              have HPE := Lib.hid hPe
              have HM3 := Lib.hid hm3
              clear hPe hm3
              rw [hb1]
              go_wp2
              go_roundw
              case rel => exact ⟨_, hC3, hB.trans hx3, .inl ⟨rfl, hll, h3, HPE.out⟩⟩
              case measure => rw [HM.out, HM3.out]; omega
    · simp only at c2
      go_wp2
      refine bodyPost_end (v := .tuple #[]) (by simp [results, Try.results113, go_sem]) rfl ⟨rfl, by rw [HP.out]; exact hC, hB⟩
end Go.Proofs.Ytkdjmfaodojmfaa

namespace Go.Proofs.Ytkdjmfaodojmfaa
open Go.RowKit

set_option maxRecDepth 100000 in
set_option maxHeartbeats 4000000 in
/-- what is asked next, or the answer -/
theorem told_any (g : Nat) (A : Option Addr) (n c : Nat) (s : Cu) (o : OutN) (w : World) (hcur : CurAt w g A n c s) :
    Calls Try.prog 114 #[.pointer (some ⟨g, 0, none⟩), .agg o.cells] w fun e w' =>
      e = .returned (.tuple #[.agg (if s.stop then s.x else Acc.zero).cells, .agg (if s.stop then ⟨0, false, 0, 0⟩ else o).cells, .bool (!s.stop)]) ∧ Ext w w' := by
  obtain ⟨i, stop, ⟨x0, x1, x2, x3, x4, x5, x6, x7, x8, x9⟩⟩ := s
  obtain ⟨o0, o1, o2, o3⟩ := o
  have hb0 : ∀ W : World, (Instr.build 37 #[]).run Try.prog W = .ok (.agg #[.int .i64 0, .bool false, .int .i64 0, .int .u64 0, .slice none 0 0]) W := fun _ => by kernel_rfl
  have hb1 : ∀ W : World, (Instr.build 33 #[]).run Try.prog W = .ok (.agg #[.int .i64 0, .int .i64 0, .int .u64 0, .int .u64 0, .slice none 0 0, .slice none 0 0]) W := fun _ => by kernel_rfl
  have hcg : g < w.heap.size := (Array.getElem?_eq_some_iff.1 hcur).1
  simp only [Acc.cells, OutN.cells]
  go_enter Try.func114, Try.ntmps114
  go_upto_region 1 with (fail)
  obtain ⟨hW, hsz, hL, hE, hO⟩ := three_boxes w (.cells #[.int .i64 o0, .bool o1, .int .i64 o2, .int .u64 o3, .slice none 0 0] 37) (.cells #[.int .i64 0, .int .i64 0, .int .u64 0, .int .u64 0, .slice none 0 0, .slice none 0 0] 33) (.cells #[.int .i64 0, .bool false, .int .i64 0, .int .u64 0, .slice none 0 0] 37)
  generalize ((w.alloc (.cells #[.int .i64 o0, .bool o1, .int .i64 o2, .int .u64 o3, .slice none 0 0] 37)).alloc (.cells #[.int .i64 0, .int .i64 0, .int .u64 0, .int .u64 0, .slice none 0 0, .slice none 0 0] 33)).alloc (.cells #[.int .i64 0, .bool false, .int .i64 0, .int .u64 0, .slice none 0 0] 37) = W at *
  have hcw : W.heap[g]? = some (.cells #[.slice A n c, .int .i64 i, .bool stop, .int .i64 x0, .int .i64 x1, .int .u64 x2, .int .u64 x3, .slice x4 x5 x6, .slice x7 x8 x9] 142 (0, 0)) := heap_ext hcur hW
  have c0 : W.cell? ⟨g, 0, none⟩ = some (.slice A n c) := by simp [World.cell?, hcw]
  have c1 : W.cell? ⟨g, 1, none⟩ = some (.int .i64 i) := by simp [World.cell?, hcw]
  have c2 : W.cell? ⟨g, 2, none⟩ = some (.bool stop) := by simp [World.cell?, hcw]
  have c3 : W.cell? ⟨g, 3, none⟩ = some (.int .i64 x0) := by simp [World.cell?, hcw]
  have c4 : W.cell? ⟨g, 4, none⟩ = some (.int .i64 x1) := by simp [World.cell?, hcw]
  have c5 : W.cell? ⟨g, 5, none⟩ = some (.int .u64 x2) := by simp [World.cell?, hcw]
  have c6 : W.cell? ⟨g, 6, none⟩ = some (.int .u64 x3) := by simp [World.cell?, hcw]
  have c7 : W.cell? ⟨g, 7, none⟩ = some (.slice x4 x5 x6) := by simp [World.cell?, hcw]
  have c8 : W.cell? ⟨g, 8, none⟩ = some (.slice x7 x8 x9) := by simp [World.cell?, hcw]
  cases stop with
  | true =>
    have e0 : W.cell? ⟨w.heap.size + 1, 0, none⟩ = some (.int .i64 0) := by simp [World.cell?, hE]
    have ef0 : W.frozen? ⟨w.heap.size + 1, 0, none⟩ = false := by simp [World.frozen?, hE]
    have e1 : W.cell? ⟨w.heap.size + 1, 1, none⟩ = some (.int .i64 0) := by simp [World.cell?, hE]
    have ef1 : W.frozen? ⟨w.heap.size + 1, 1, none⟩ = false := by simp [World.frozen?, hE]
    have e2 : W.cell? ⟨w.heap.size + 1, 2, none⟩ = some (.int .u64 0) := by simp [World.cell?, hE]
    have ef2 : W.frozen? ⟨w.heap.size + 1, 2, none⟩ = false := by simp [World.frozen?, hE]
    have e3 : W.cell? ⟨w.heap.size + 1, 3, none⟩ = some (.int .u64 0) := by simp [World.cell?, hE]
    have ef3 : W.frozen? ⟨w.heap.size + 1, 3, none⟩ = false := by simp [World.frozen?, hE]
    have e4 : W.cell? ⟨w.heap.size + 1, 4, none⟩ = some (.slice none 0 0) := by simp [World.cell?, hE]
    have ef4 : W.frozen? ⟨w.heap.size + 1, 4, none⟩ = false := by simp [World.frozen?, hE]
    have e5 : W.cell? ⟨w.heap.size + 1, 5, none⟩ = some (.slice none 0 0) := by simp [World.cell?, hE]
    have ef5 : W.frozen? ⟨w.heap.size + 1, 5, none⟩ = false := by simp [World.frozen?, hE]
    have d0 : W.cell? ⟨w.heap.size + 1 + 1, 0, none⟩ = some (.int .i64 0) := by simp [World.cell?, hO]
    have df0 : W.frozen? ⟨w.heap.size + 1 + 1, 0, none⟩ = false := by simp [World.frozen?, hO]
    have d1 : W.cell? ⟨w.heap.size + 1 + 1, 1, none⟩ = some (.bool false) := by simp [World.cell?, hO]
    have df1 : W.frozen? ⟨w.heap.size + 1 + 1, 1, none⟩ = false := by simp [World.frozen?, hO]
    have d2 : W.cell? ⟨w.heap.size + 1 + 1, 2, none⟩ = some (.int .i64 0) := by simp [World.cell?, hO]
    have df2 : W.frozen? ⟨w.heap.size + 1 + 1, 2, none⟩ = false := by simp [World.frozen?, hO]
    have d3 : W.cell? ⟨w.heap.size + 1 + 1, 3, none⟩ = some (.int .u64 0) := by simp [World.cell?, hO]
    have df3 : W.frozen? ⟨w.heap.size + 1 + 1, 3, none⟩ = false := by simp [World.frozen?, hO]
    have d4 : W.cell? ⟨w.heap.size + 1 + 1, 4, none⟩ = some (.slice none 0 0) := by simp [World.cell?, hO]
    have df4 : W.frozen? ⟨w.heap.size + 1 + 1, 4, none⟩ = false := by simp [World.frozen?, hO]
    clear hcw hE hO hL hcur
    go_wp2
    refine bodyPost_ret (v := .tuple #[.agg #[.int .i64 x0, .int .i64 x1, .int .u64 x2, .int .u64 x3, .slice x4 x5 x6, .slice x7 x8 x9], .agg #[.int .i64 0, .bool false, .int .i64 0, .int .u64 0, .slice none 0 0], .bool false]) (by simp [results, Try.results114, go_sem, e0, e1, e2, e3, e4, e5, d0, d1, d2, d3, d4]) rfl ⟨by simp, ?_⟩
    exact setAll_ext (g := w.heap.size + 1 + 1) (vs := [.int .i64 0, .bool false, .int .i64 0, .int .u64 0, .slice none 0 0]) (i := 0) (setAll_ext (g := w.heap.size + 1) (vs := [.int .i64 x0, .int .i64 x1, .int .u64 x2, .int .u64 x3, .slice x4 x5 x6, .slice x7 x8 x9]) (i := 0) hW (by omega)) (by omega)
  | false =>
    go_upto_region 3 with (fail)
    have b0 : W.cell? ⟨w.heap.size, 0, none⟩ = some (.int .i64 o0) := by simp [World.cell?, hL]
    have b1 : W.cell? ⟨w.heap.size, 1, none⟩ = some (.bool o1) := by simp [World.cell?, hL]
    have b2 : W.cell? ⟨w.heap.size, 2, none⟩ = some (.int .i64 o2) := by simp [World.cell?, hL]
    have b3 : W.cell? ⟨w.heap.size, 3, none⟩ = some (.int .u64 o3) := by simp [World.cell?, hL]
    have b4 : W.cell? ⟨w.heap.size, 4, none⟩ = some (.slice none 0 0) := by simp [World.cell?, hL]
    have e0 : W.cell? ⟨w.heap.size + 1, 0, none⟩ = some (.int .i64 0) := by simp [World.cell?, hE]
    have ef0 : W.frozen? ⟨w.heap.size + 1, 0, none⟩ = false := by simp [World.frozen?, hE]
    have e1 : W.cell? ⟨w.heap.size + 1, 1, none⟩ = some (.int .i64 0) := by simp [World.cell?, hE]
    have ef1 : W.frozen? ⟨w.heap.size + 1, 1, none⟩ = false := by simp [World.frozen?, hE]
    have e2 : W.cell? ⟨w.heap.size + 1, 2, none⟩ = some (.int .u64 0) := by simp [World.cell?, hE]
    have ef2 : W.frozen? ⟨w.heap.size + 1, 2, none⟩ = false := by simp [World.frozen?, hE]
    have e3 : W.cell? ⟨w.heap.size + 1, 3, none⟩ = some (.int .u64 0) := by simp [World.cell?, hE]
    have ef3 : W.frozen? ⟨w.heap.size + 1, 3, none⟩ = false := by simp [World.frozen?, hE]
    have e4 : W.cell? ⟨w.heap.size + 1, 4, none⟩ = some (.slice none 0 0) := by simp [World.cell?, hE]
    have ef4 : W.frozen? ⟨w.heap.size + 1, 4, none⟩ = false := by simp [World.frozen?, hE]
    have e5 : W.cell? ⟨w.heap.size + 1, 5, none⟩ = some (.slice none 0 0) := by simp [World.cell?, hE]
    have ef5 : W.frozen? ⟨w.heap.size + 1, 5, none⟩ = false := by simp [World.frozen?, hE]
    have d0 : W.cell? ⟨w.heap.size + 1 + 1, 0, none⟩ = some (.int .i64 0) := by simp [World.cell?, hO]
    have df0 : W.frozen? ⟨w.heap.size + 1 + 1, 0, none⟩ = false := by simp [World.frozen?, hO]
    have d1 : W.cell? ⟨w.heap.size + 1 + 1, 1, none⟩ = some (.bool false) := by simp [World.cell?, hO]
    have df1 : W.frozen? ⟨w.heap.size + 1 + 1, 1, none⟩ = false := by simp [World.frozen?, hO]
    have d2 : W.cell? ⟨w.heap.size + 1 + 1, 2, none⟩ = some (.int .i64 0) := by simp [World.cell?, hO]
    have df2 : W.frozen? ⟨w.heap.size + 1 + 1, 2, none⟩ = false := by simp [World.frozen?, hO]
    have d3 : W.cell? ⟨w.heap.size + 1 + 1, 3, none⟩ = some (.int .u64 0) := by simp [World.cell?, hO]
    have df3 : W.frozen? ⟨w.heap.size + 1 + 1, 3, none⟩ = false := by simp [World.frozen?, hO]
    have d4 : W.cell? ⟨w.heap.size + 1 + 1, 4, none⟩ = some (.slice none 0 0) := by simp [World.cell?, hO]
    have df4 : W.frozen? ⟨w.heap.size + 1 + 1, 4, none⟩ = false := by simp [World.frozen?, hO]
    clear hcw hcur c0 c1 c2 c3 c4 c5 c6 c7 c8 hL hE hO
    go_region
    all_goals
      go_wp2
      refine bodyPost_ret (v := .tuple #[.agg #[.int .i64 0, .int .i64 0, .int .u64 0, .int .u64 0, .slice none 0 0, .slice none 0 0], .agg #[.int .i64 o0, .bool o1, .int .i64 o2, .int .u64 o3, .slice none 0 0], .bool true]) (by simp [results, Try.results114, go_sem, e0, e1, e2, e3, e4, e5, d0, d1, d2, d3, d4]) rfl ⟨by simp [Acc.zero], ?_⟩
      refine Ext.trans ?_ (Ext.refl _).drawn
      exact setAll_ext (g := w.heap.size + 1 + 1) (vs := [.int .i64 o0, .bool o1, .int .i64 o2, .int .u64 o3, .slice none 0 0]) (i := 0) (setAll_ext (g := w.heap.size + 1) (vs := [.int .i64 0, .int .i64 0, .int .u64 0, .int .u64 0, .slice none 0 0, .slice none 0 0]) (i := 0) hW (by omega)) (by omega)
/-- a log gone through by a row of accesses -/
def Cu.at (rs : List Res) (l : List Acc) (j : Nat) : Cu := if j ≤ rs.length then ⟨j, false, Acc.zero⟩ else ⟨rs.length, true, (l[rs.length]?).getD Acc.zero⟩
theorem Cu.at_lo {rs : List Res} {l : List Acc} {j : Nat} (h : j ≤ rs.length) : Cu.at rs l j = ⟨j, false, Acc.zero⟩ := if_pos h
theorem Cu.at_hi {rs : List Res} {l : List Acc} {j : Nat} (h : ¬ j ≤ rs.length) : Cu.at rs l j = ⟨rs.length, true, (l[rs.length]?).getD Acc.zero⟩ := if_neg h
theorem Cu.at_next {rs : List Res} {l : List Acc} {j : Nat} {x : Acc} (hx : l[j]? = some x) : (Cu.at rs l j).next rs x = Cu.at rs l (j + 1) := by
  rcases Nat.lt_trichotomy j rs.length with h | h | h
  · rw [Cu.at_lo (Nat.le_of_lt h), Cu.at_lo h]; simp [Cu.next, h]
  · subst h; rw [Cu.at_lo (Nat.le_refl _), Cu.at_hi (by omega)]; simp [Cu.next, hx]
  · rw [Cu.at_hi (by omega), Cu.at_hi (by omega)]; simp [Cu.next]
theorem Cu.at_sum {rs : List Res} {l : List Acc} {j : Nat} : IntKind.u64.wrap (lineSum rs j + ((Cu.at rs l j).told rs).n) = lineSum rs (j + 1) := by
  rcases Nat.lt_or_ge j rs.length with h | h
  · rw [Cu.at_lo (Nat.le_of_lt h)]
    have hd : rs.drop j = rs[j] :: rs.drop (j + 1) := List.drop_eq_getElem_cons h
    rw [← lineSum_step hd]
    simp [Cu.told, h]
  · have h0 : lineSum rs j = lineSum rs (j + 1) := by
      unfold lineSum
      rw [List.take_of_length_le (by omega), List.take_of_length_le (by omega)]
    have hz : IntKind.u64.wrap (lineSum rs (j + 1)) = lineSum rs (j + 1) := by
      simp only [lineSum, IntKind.wrap_u64]; omega
    rw [h0]
    rcases Nat.lt_or_ge rs.length j with h' | h'
    · rw [Cu.at_hi (by omega)]; simp [Cu.told, Res.zero, hz]
    · rw [Cu.at_lo (by omega)]; simp [Cu.told, Res.zero, hz, List.getElem?_eq_none h]
theorem four_boxes (w : World) (o0 o1 o2 o3 : Obj) :
    Ext w ((((w.alloc o0).alloc o1).alloc o2).alloc o3) ∧ ((((w.alloc o0).alloc o1).alloc o2).alloc o3).heap.size = w.heap.size + 4 ∧
    ((((w.alloc o0).alloc o1).alloc o2).alloc o3).heap[w.heap.size]? = some o0 ∧ ((((w.alloc o0).alloc o1).alloc o2).alloc o3).heap[w.heap.size + 1]? = some o1 ∧ ((((w.alloc o0).alloc o1).alloc o2).alloc o3).heap[w.heap.size + 1 + 1]? = some o2 ∧
    ((((w.alloc o0).alloc o1).alloc o2).alloc o3).heap[w.heap.size + 1 + 1 + 1]? = some o3 := by
  refine ⟨(((((Below.refl _ w).alloc (Nat.le_refl _) _).alloc (by simp) _).alloc (by simp; omega) _).alloc (by simp; omega) _), by simp, ?_, ?_, ?_, ?_⟩
  · rw [Below.heap_alloc _ _ _ (by first | (simp; omega) | simp), Below.heap_alloc _ _ _ (by first | (simp; omega) | simp), Below.heap_alloc _ _ _ (by first | (simp; omega) | simp)]
    simpa using heap_alloc_new w o0
  · rw [Below.heap_alloc _ _ _ (by first | (simp; omega) | simp), Below.heap_alloc _ _ _ (by first | (simp; omega) | simp)]
    simpa using heap_alloc_new (w.alloc o0) o1
  · rw [Below.heap_alloc _ _ _ (by first | (simp; omega) | simp)]
    simpa using heap_alloc_new ((w.alloc o0).alloc o1) o2
  · simpa using heap_alloc_new (((w.alloc o0).alloc o1).alloc o2) o3
theorem LogV.low {w : World} {a : Addr} {n c : Nat} {rs : List Res} (h : LogV w (some a) n c rs) (hn : 0 < n) : a.block < w.heap.size := by
  obtain ⟨b, hb, hc⟩ := h.at_ 0 (rs[0]'(by rw [h.len]; exact hn)) (List.getElem?_eq_getElem _)
  obtain rfl : a = b := Option.some.inj hb
  have := lt_of_cell hc.1
  rwa [add_block] at this
set_option maxRecDepth 100000 in
set_option maxHeartbeats 4000000 in
theorem rline_any (A : Option Addr) (n c : Nat) (l : List Acc) (B : Option Addr) (k kc : Nat) (rs : List Res) (w : World) (hl : AccsV w A n c l) (hn : n ≤ 65536) (hlog : LogV w B k kc rs) :
    Calls Try.prog 55 #[.slice A n c, .slice B k kc] w fun e w' => e = lineEnd l rs ∧ Ext w w' := by
  have hlen : l.length = n := hl.len
  have hmk : ∀ W : World, (Instr.build 142 #[(0, .slice B k kc)]).run Try.prog W = .ok (.agg #[.slice B k kc, .int .i64 0, .bool false, .int .i64 0, .int .i64 0, .int .u64 0, .int .u64 0, .slice none 0 0, .slice none 0 0]) W := fun _ => by kernel_rfl
  have hmk2 : ∀ W : World, (Instr.build 37 #[(2, .int .i64 n)]).run Try.prog W = .ok (.agg #[.int .i64 0, .bool false, .int .i64 n, .int .u64 0, .slice none 0 0]) W := fun _ => by kernel_rfl
  have hwn : IntKind.i64.wrap (n : Int) = (n : Int) := by rw [IntKind.wrap_i64]; omega
  go_enter Try.func55, Try.ntmps55
  go_upto_region 3 with (fail)
  obtain ⟨hW, hsz, hE, hD, hC, hO⟩ := four_boxes w (.cells #[.int .i64 0, .int .i64 0, .int .u64 0, .int .u64 0, .slice none 0 0, .slice none 0 0] 33) (.cells #[.int .i64 0, .bool false, .int .i64 0, .int .u64 0, .slice none 0 0] 37)
    (.cells #[.slice B k kc, .int .i64 0, .bool false, .int .i64 0, .int .i64 0, .int .u64 0, .int .u64 0, .slice none 0 0, .slice none 0 0] 142) (.cells #[.int .i64 0, .bool false, .int .i64 n, .int .u64 0, .slice none 0 0] 37)
  generalize (((w.alloc (.cells #[.int .i64 0, .int .i64 0, .int .u64 0, .int .u64 0, .slice none 0 0, .slice none 0 0] 33)).alloc (.cells #[.int .i64 0, .bool false, .int .i64 0, .int .u64 0, .slice none 0 0] 37)).alloc
    (.cells #[.slice B k kc, .int .i64 0, .bool false, .int .i64 0, .int .i64 0, .int .u64 0, .int .u64 0, .slice none 0 0, .slice none 0 0] 142)).alloc (.cells #[.int .i64 0, .bool false, .int .i64 n, .int .u64 0, .slice none 0 0] 37) = W at *
  have hsep : ∀ a, B = some a → 0 < k → a.block ≠ w.heap.size + 1 + 1 := fun a ha hk => by subst ha; have := hlog.low hk; omega
  have hsepA : ∀ a, A = some a → 0 < n → a.block < w.heap.size := fun a ha hk => by subst ha; exact hl.low hk
  go_wp2
  go_loopw [9] (fun i wr => ∃ j : Nat, j ≤ n ∧ i = .int .i64 j ∧ CurAt wr (w.heap.size + 1 + 1) B k kc (Cu.at rs l j) ∧ wr.heap[w.heap.size + 1 + 1 + 1]? = some (.cells #[.int .i64 0, .bool false, .int .i64 n, .int .u64 (lineSum rs j), .slice none 0 0] 37 (0, 0)) ∧
    wr.heap[w.heap.size]? = some (.cells #[.int .i64 0, .int .i64 0, .int .u64 0, .int .u64 0, .slice none 0 0, .slice none 0 0] 33 (0, 0)) ∧ wr.heap[w.heap.size + 1]? = some (.cells #[.int .i64 0, .bool false, .int .i64 0, .int .u64 0, .slice none 0 0] 37 (0, 0)) ∧ Ext w wr) (fun i _ => n - (intOf i).toNat)
  case atStart => exact ⟨0, Nat.zero_le _, rfl, hC, hO, hE, hD, hW⟩
  case round =>
    clear hC hO hE hD hW hsz
    obtain ⟨j, hj, rfl, hC, hO, hE, hD, hx⟩ := hrel
    rcases Nat.lt_or_ge j n with hjn | hjn
    · obtain ⟨a, rfl, hxa⟩ := hl.at_ j (l[j]'(by rw [hl.len]; exact hjn)) (List.getElem?_eq_getElem _)
      have hlx : l[j]? = some (l[j]'(by rw [hl.len]; exact hjn)) := List.getElem?_eq_getElem _
      generalize (l[j]'(by rw [hl.len]; exact hjn)) = x at *
      obtain ⟨x0, x1, x2, x3, x4, x5, x6, x7, x8, x9⟩ := x
      have y0 := hx.cell (hxa 0 (.int .i64 x0) rfl)
      rw [show ((a.add (j * 6)).add 0) = a.add (j * 6) from rfl] at y0
      have y1 := hx.cell (hxa 1 (.int .i64 x1) rfl)
      rw [show ((a.add (j * 6)).add 1) = ⟨(a.add (j * 6)).block, (a.add (j * 6)).off + 1, none⟩ from rfl] at y1
      have y2 := hx.cell (hxa 2 (.int .u64 x2) rfl)
      rw [show ((a.add (j * 6)).add 2) = ⟨(a.add (j * 6)).block, (a.add (j * 6)).off + 2, none⟩ from rfl] at y2
      have y3 := hx.cell (hxa 3 (.int .u64 x3) rfl)
      rw [show ((a.add (j * 6)).add 3) = ⟨(a.add (j * 6)).block, (a.add (j * 6)).off + 3, none⟩ from rfl] at y3
      have y4 := hx.cell (hxa 4 (.slice x4 x5 x6) rfl)
      rw [show ((a.add (j * 6)).add 4) = ⟨(a.add (j * 6)).block, (a.add (j * 6)).off + 4, none⟩ from rfl] at y4
      have y5 := hx.cell (hxa 5 (.slice x7 x8 x9) rfl)
      rw [show ((a.add (j * 6)).add 5) = ⟨(a.add (j * 6)).block, (a.add (j * 6)).off + 5, none⟩ from rfl] at y5
      go_wp2_with fail
      refine (rdo_any ⟨x0, x1, x2, x3, x4, x5, x6, x7, x8, x9⟩ (w.heap.size + 1 + 1) B k kc (Cu.at rs l j) rs _ (hlog.ext hx) hsep hC).mono ?_
      rintro e w1 ⟨rfl, hC1, hB1⟩
      rw [Cu.at_next hlx] at hC1
      have hsum := Cu.at_sum (rs := rs) (l := l) (j := j)
      generalize (Cu.at rs l j).told rs = r at *
      have hO1 := hB1.heap hO (by omega)
      have hE1 := hB1.heap hE (by omega)
      have hD1 := hB1.heap hD (by omega)
      have hx1 := hB1.ext hx (by omega)
      clear hC hO hE hD hx y0 y1 y2 y3 y4 y5 hB1 hxa
      obtain ⟨rn, rA, rk, rc, rf⟩ := r
      simp only at hsum ⊢
      go_upto_region 7 with (fail)
      have hW3 : Ext w1 (w1.alloc (.cells #[.int .u64 rn, .slice rA rk rc, .bool rf] 130)) := (Below.refl _ w1).alloc (Nat.le_refl _) _
      have hr3 : (w1.alloc (.cells #[.int .u64 rn, .slice rA rk rc, .bool rf] 130)).heap[w1.heap.size]? = some (.cells #[.int .u64 rn, .slice rA rk rc, .bool rf] 130 (0, 0)) := heap_alloc_new w1 _
      have hC3 : CurAt _ _ _ _ _ _ := heap_ext hC1 hW3
      have hO3 := heap_ext hO1 hW3
      have hE3 := heap_ext hE1 hW3
      have hD3 := heap_ext hD1 hW3
      have hx3 := hx1.trans hW3
      have hlt : w.heap.size + 1 + 1 + 1 < w1.heap.size := (Array.getElem?_eq_some_iff.1 hO1).1
      clear hC1 hO1 hE1 hD1 hx1 hW3
      generalize w1.alloc (.cells #[.int .u64 rn, .slice rA rk rc, .bool rf] 130) = W3 at *
      generalize w1.heap.size = g3 at *
      have z3 : W3.cell? ⟨w.heap.size + 1 + 1 + 1, 3, none⟩ = some (.int .u64 (lineSum rs j)) := by simp [World.cell?, hO3]
      have f3 : W3.frozen? ⟨w.heap.size + 1 + 1 + 1, 3, none⟩ = false := by simp [World.frozen?, hO3]
      have r0 : W3.cell? ⟨g3, 0, none⟩ = some (.int .u64 rn) := by simp [World.cell?, hr3]
      have HC := Lib.hid hC3
      have HO := Lib.hid hO3
      have HE := Lib.hid hE3
      have HD := Lib.hid hD3
      clear hC3 hO3 hE3 hD3 hr3
      go_wp2
      go_roundw
      case rel => exact ⟨j + 1, by omega, by go_num, by rw [CurAt, Below.heap_setCell _ _ _ _ (by simp)]; exact HC.out, by rw [heap_setCell_at HO.out]; rfl,
        by rw [Below.heap_setCell _ _ _ _ (by first | (simp; omega) | simp)]; exact HE.out, by rw [Below.heap_setCell _ _ _ _ (by first | (simp; omega) | simp)]; exact HD.out, hx3.setCell (by first | (simp; omega) | simp) _⟩
      case measure => simp [intOf]; omega
    · obtain rfl : j = n := by omega
      have o0 : wr.cell? ⟨w.heap.size + 1 + 1 + 1, 0, none⟩ = some (.int .i64 0) := by simp [World.cell?, hO]
      have o1 : wr.cell? ⟨w.heap.size + 1 + 1 + 1, 1, none⟩ = some (.bool false) := by simp [World.cell?, hO]
      have o2 : wr.cell? ⟨w.heap.size + 1 + 1 + 1, 2, none⟩ = some (.int .i64 j) := by simp [World.cell?, hO]
      have o3 : wr.cell? ⟨w.heap.size + 1 + 1 + 1, 3, none⟩ = some (.int .u64 (lineSum rs j)) := by simp [World.cell?, hO]
      have o4 : wr.cell? ⟨w.heap.size + 1 + 1 + 1, 4, none⟩ = some (.slice none 0 0) := by simp [World.cell?, hO]
      have htold := told_any (w.heap.size + 1 + 1) B k kc (Cu.at rs l j) ⟨0, false, j, lineSum rs j⟩ wr hC
      have hcl : Calls Try.prog 114 #[.pointer (some ⟨w.heap.size + 1 + 1, 0, none⟩), .agg #[.int .i64 0, .bool false, .int .i64 j, .int .u64 (lineSum rs j), .slice none 0 0]] wr fun e w' =>
          ∃ (x : Acc) (o : OutN) (d : Bool), e = .returned (.tuple #[.agg x.cells, .agg o.cells, .bool d]) ∧ lineEnd l rs = e ∧ Ext wr w' := htold.mono fun e w' ⟨he, hx'⟩ => by
        refine ⟨_, _, _, he, ?_, hx'⟩
        rw [he]
        by_cases hle : j ≤ rs.length
        · rw [Cu.at_lo hle]
          simp only [lineEnd, hlen, if_pos hle]; rfl
        · have hlt : rs.length < l.length := by omega
          rw [Cu.at_hi hle]
          simp only [lineEnd, hlen, if_neg hle, List.getElem?_eq_getElem hlt, Option.elim]; rfl
      clear htold hC
      go_wp2_with fail
      refine hcl.mono ?_
      rintro e w1 ⟨⟨x0, x1, x2, x3, x4, x5, x6, x7, x8, x9⟩, ⟨p0, p1, p2, p3⟩, b, rfl, hend, hx1⟩
      have hE1 := heap_ext hE hx1
      have hD1 := heap_ext hD hx1
      have hx2 := hx.trans hx1
      clear hE hD hO hx hx1 hl hlog o0 o1 o2 o3 o4 hcl
      simp only [Acc.cells, OutN.cells] at hend ⊢
      have e0 : w1.cell? ⟨w.heap.size, 0, none⟩ = some (.int .i64 0) := by simp [World.cell?, hE1]
      have ef0 : w1.frozen? ⟨w.heap.size, 0, none⟩ = false := by simp [World.frozen?, hE1]
      have e1 : w1.cell? ⟨w.heap.size, 1, none⟩ = some (.int .i64 0) := by simp [World.cell?, hE1]
      have ef1 : w1.frozen? ⟨w.heap.size, 1, none⟩ = false := by simp [World.frozen?, hE1]
      have e2 : w1.cell? ⟨w.heap.size, 2, none⟩ = some (.int .u64 0) := by simp [World.cell?, hE1]
      have ef2 : w1.frozen? ⟨w.heap.size, 2, none⟩ = false := by simp [World.frozen?, hE1]
      have e3 : w1.cell? ⟨w.heap.size, 3, none⟩ = some (.int .u64 0) := by simp [World.cell?, hE1]
      have ef3 : w1.frozen? ⟨w.heap.size, 3, none⟩ = false := by simp [World.frozen?, hE1]
      have e4 : w1.cell? ⟨w.heap.size, 4, none⟩ = some (.slice none 0 0) := by simp [World.cell?, hE1]
      have ef4 : w1.frozen? ⟨w.heap.size, 4, none⟩ = false := by simp [World.frozen?, hE1]
      have e5 : w1.cell? ⟨w.heap.size, 5, none⟩ = some (.slice none 0 0) := by simp [World.cell?, hE1]
      have ef5 : w1.frozen? ⟨w.heap.size, 5, none⟩ = false := by simp [World.frozen?, hE1]
      have d0 : w1.cell? ⟨w.heap.size + 1, 0, none⟩ = some (.int .i64 0) := by simp [World.cell?, hD1]
      have df0 : w1.frozen? ⟨w.heap.size + 1, 0, none⟩ = false := by simp [World.frozen?, hD1]
      have d1 : w1.cell? ⟨w.heap.size + 1, 1, none⟩ = some (.bool false) := by simp [World.cell?, hD1]
      have df1 : w1.frozen? ⟨w.heap.size + 1, 1, none⟩ = false := by simp [World.frozen?, hD1]
      have d2 : w1.cell? ⟨w.heap.size + 1, 2, none⟩ = some (.int .i64 0) := by simp [World.cell?, hD1]
      have df2 : w1.frozen? ⟨w.heap.size + 1, 2, none⟩ = false := by simp [World.frozen?, hD1]
      have d3 : w1.cell? ⟨w.heap.size + 1, 3, none⟩ = some (.int .u64 0) := by simp [World.cell?, hD1]
      have df3 : w1.frozen? ⟨w.heap.size + 1, 3, none⟩ = false := by simp [World.frozen?, hD1]
      have d4 : w1.cell? ⟨w.heap.size + 1, 4, none⟩ = some (.slice none 0 0) := by simp [World.cell?, hD1]
      have df4 : w1.frozen? ⟨w.heap.size + 1, 4, none⟩ = false := by simp [World.frozen?, hD1]
      clear hE1 hD1
      go_wp2
      refine bodyPost_ret (v := .tuple #[.agg #[.int .i64 x0, .int .i64 x1, .int .u64 x2, .int .u64 x3, .slice x4 x5 x6, .slice x7 x8 x9], .agg #[.int .i64 p0, .bool p1, .int .i64 p2, .int .u64 p3, .slice none 0 0], .bool b]) (by simp [results, Try.results55, go_sem, e0, e1, e2, e3, e4, e5, d0, d1, d2, d3, d4]) rfl ⟨hend.symm, ?_⟩
      exact setAll_ext (g := w.heap.size + 1) (vs := [.int .i64 p0, .bool p1, .int .i64 p2, .int .u64 p3, .slice none 0 0]) (i := 0) (setAll_ext (g := w.heap.size) (vs := [.int .i64 x0, .int .i64 x1, .int .u64 x2, .int .u64 x3, .slice x4 x5 x6, .slice x7 x8 x9]) (i := 0) hx2 (by omega)) (by omega)
end Go.Proofs.Ytkdjmfaodojmfaa

namespace Go.Proofs.Ytkdjmfaodojmfaa
open Go.RowKit

/-! wealdref12.Next. -/
theorem boxes5n (w : World) (o0 o1 o2 o3 o4 : Obj) :
    Ext w (((((w.alloc o0).alloc o1).alloc o2).alloc o3).alloc o4) ∧ (((((w.alloc o0).alloc o1).alloc o2).alloc o3).alloc o4).heap[w.heap.size]? = some o0 ∧ (((((w.alloc o0).alloc o1).alloc o2).alloc o3).alloc o4).heap[w.heap.size + 1]? = some o1 ∧
      (((((w.alloc o0).alloc o1).alloc o2).alloc o3).alloc o4).heap[w.heap.size + 1 + 1]? = some o2 ∧ (((((w.alloc o0).alloc o1).alloc o2).alloc o3).alloc o4).heap[w.heap.size + 1 + 1 + 1]? = some o3 ∧ (((((w.alloc o0).alloc o1).alloc o2).alloc o3).alloc o4).heap[w.heap.size + 1 + 1 + 1 + 1]? = some o4 := by
  obtain ⟨h, h0, h1, h2, h3⟩ := boxes4n w o0 o1 o2 o3
  have hx : Ext ((((w.alloc o0).alloc o1).alloc o2).alloc o3) (((((w.alloc o0).alloc o1).alloc o2).alloc o3).alloc o4) := (Below.refl _ _).alloc (Nat.le_refl _) _
  exact ⟨h.trans hx, heap_ext h0 hx, heap_ext h1 hx, heap_ext h2 hx, heap_ext h3 hx, by simpa using heap_alloc_new ((((w.alloc o0).alloc o1).alloc o2).alloc o3) o4⟩
set_option maxRecDepth 100000 in
set_option maxHeartbeats 4000000 in
theorem rnext_pop (t u v d : Int) (ht1 : 0 ≤ t) (ht2 : t ≤ 64)  (B : Option Addr) (n kc : Nat) (rs : List Res) (w : World) (hlog : LogV w B n kc rs) (hU : GoodR rs) :
    Calls Try.prog 18 #[.int .i64 t, .agg #[.int .i64 1, .int .i64 u, .int .i64 v, .int .u64 d], .slice B n kc] w fun e w' => e = (poolN t 1 u (rs.map Res.n)).fin ∧ Ext w w' := by
  obtain ⟨E, hE0⟩ : ∃ E, poolN t 1 u (rs.map Res.n) = E := ⟨_, rfl⟩
  have HN := Lib.hid hE0
  clear hE0
  have hmk : ∀ W : World, (Instr.build 142 #[(0, .slice B n kc)]).run Try.prog W = .ok (.agg #[.slice B n kc, .int .i64 0, .bool false, .int .i64 0, .int .i64 0, .int .u64 0, .int .u64 0, .slice none 0 0, .slice none 0 0]) W := fun _ => by kernel_rfl
  have hmo : ∀ W : World, (Instr.build 37 #[]).run Try.prog W = .ok (.agg #[.int .i64 0, .bool false, .int .i64 0, .int .u64 0, .slice none 0 0]) W := fun _ => by kernel_rfl
  have hsep : ∀ a, B = some a → 0 < n → a.block ≠ w.heap.size + 1 + 1 + 1 := fun a ha hk => by subst ha; have := hlog.low hk; omega
  go_enter Try.func18, Try.ntmps18
  go_upto_region 3 with (fail)
  obtain ⟨hW, hP, hA, hQ, hC, hO⟩ := boxes5n w (.cells #[.int .i64 1, .int .i64 u, .int .i64 v, .int .u64 d] 24) (.cells #[.int .i64 0, .int .i64 0, .int .u64 0, .int .u64 0, .slice none 0 0, .slice none 0 0] 33) (.cells #[.int .i64 0, .bool false, .int .i64 0, .int .u64 0, .slice none 0 0] 37) (.cells #[.slice B n kc, .int .i64 0, .bool false, .int .i64 0, .int .i64 0, .int .u64 0, .int .u64 0, .slice none 0 0, .slice none 0 0] 142) (.cells #[.int .i64 0, .bool false, .int .i64 0, .int .u64 0, .slice none 0 0] 37)
  generalize ((((w.alloc (.cells #[.int .i64 1, .int .i64 u, .int .i64 v, .int .u64 d] 24)).alloc (.cells #[.int .i64 0, .int .i64 0, .int .u64 0, .int .u64 0, .slice none 0 0, .slice none 0 0] 33)).alloc (.cells #[.int .i64 0, .bool false, .int .i64 0, .int .u64 0, .slice none 0 0] 37)).alloc (.cells #[.slice B n kc, .int .i64 0, .bool false, .int .i64 0, .int .i64 0, .int .u64 0, .int .u64 0, .slice none 0 0, .slice none 0 0] 142)).alloc (.cells #[.int .i64 0, .bool false, .int .i64 0, .int .u64 0, .slice none 0 0] 37) = W at *
  have hC : CurAt W (w.heap.size + 1 + 1 + 1) B n kc ⟨0, false, Acc.zero⟩ := hC
  have hL := hlog.ext hW
  have p0 : W.cell? ⟨w.heap.size, 0, none⟩ = some (.int .i64 1) := by simp [World.cell?, hP]
  have p1 : W.cell? ⟨w.heap.size, 1, none⟩ = some (.int .i64 u) := by simp [World.cell?, hP]
  have p2 : W.cell? ⟨w.heap.size, 2, none⟩ = some (.int .i64 v) := by simp [World.cell?, hP]
  have p3 : W.cell? ⟨w.heap.size, 3, none⟩ = some (.int .u64 d) := by simp [World.cell?, hP]
  go_wp2_with fail
  refine (rpop_any t (w.heap.size + 1 + 1 + 1) B n kc ⟨0, false, Acc.zero⟩ rs _ hL hsep hC rfl (Nat.zero_le _) ht1 ht2 hU).mono ?_
  rintro e w1 ⟨rfl, hC1, hx⟩
  have hO1 := hx.heap hO (by omega)
  have hA1 := hx.heap hA (by omega)
  have hQ1 := hx.heap hQ (by omega)
  have hW1 := hx.ext hW (by omega)
  clear hC hO hA hQ hW hL p0 p1 p2 p3 hP hx
  simp only [List.drop_zero] at hC1 ⊢
  cases hPN : popN t 0 (rs.map Res.n) with
  | stop x =>
    have hE : E = .stop x := by rw [← HN.out]; simp [poolN, hPN]
    rw [hPN] at hC1
    try rw [hPN]
    simp only [Cu.after, ProgE.val] at hC1 ⊢
    clear hPN
    have o0 : w1.cell? ⟨w.heap.size + 1 + 1 + 1 + 1, 0, none⟩ = some (.int .i64 0) := by simp [World.cell?, hO1]
    have of0 : w1.frozen? ⟨w.heap.size + 1 + 1 + 1 + 1, 0, none⟩ = false := by simp [World.frozen?, hO1]
    have o1 : w1.cell? ⟨w.heap.size + 1 + 1 + 1 + 1, 1, none⟩ = some (.bool false) := by simp [World.cell?, hO1]
    have of1 : w1.frozen? ⟨w.heap.size + 1 + 1 + 1 + 1, 1, none⟩ = false := by simp [World.frozen?, hO1]
    have o2 : w1.cell? ⟨w.heap.size + 1 + 1 + 1 + 1, 2, none⟩ = some (.int .i64 0) := by simp [World.cell?, hO1]
    have of2 : w1.frozen? ⟨w.heap.size + 1 + 1 + 1 + 1, 2, none⟩ = false := by simp [World.frozen?, hO1]
    have o3 : w1.cell? ⟨w.heap.size + 1 + 1 + 1 + 1, 3, none⟩ = some (.int .u64 0) := by simp [World.cell?, hO1]
    have of3 : w1.frozen? ⟨w.heap.size + 1 + 1 + 1 + 1, 3, none⟩ = false := by simp [World.frozen?, hO1]
    have o4 : w1.cell? ⟨w.heap.size + 1 + 1 + 1 + 1, 4, none⟩ = some (.slice none 0 0) := by simp [World.cell?, hO1]
    have of4 : w1.frozen? ⟨w.heap.size + 1 + 1 + 1 + 1, 4, none⟩ = false := by simp [World.frozen?, hO1]
    go_upto_region 9 with (fail)
    have hO2 : (w1.setCell ⟨w.heap.size + 1 + 1 + 1 + 1, 2, none⟩ (.int .i64 0)).heap[w.heap.size + 1 + 1 + 1 + 1]? = some (.cells #[.int .i64 0, .bool false, .int .i64 0, .int .u64 0, .slice none 0 0] 37 (0, 0)) := heap_setCell_at hO1
    have hC2 : CurAt (w1.setCell ⟨w.heap.size + 1 + 1 + 1 + 1, 2, none⟩ (.int .i64 0)) (w.heap.size + 1 + 1 + 1) B n kc _ := (Below.heap_setCell _ _ _ _ (by simp)).trans hC1
    have hA2 : (w1.setCell ⟨w.heap.size + 1 + 1 + 1 + 1, 2, none⟩ (.int .i64 0)).heap[w.heap.size + 1]? = _ := (Below.heap_setCell _ _ _ _ (by simp <;> omega)).trans hA1
    have hQ2 : (w1.setCell ⟨w.heap.size + 1 + 1 + 1 + 1, 2, none⟩ (.int .i64 0)).heap[w.heap.size + 1 + 1]? = _ := (Below.heap_setCell _ _ _ _ (by simp <;> omega)).trans hQ1
    have hW2 : Ext w (w1.setCell ⟨w.heap.size + 1 + 1 + 1 + 1, 2, none⟩ (.int .i64 0)) := hW1.setCell (by simp; omega) _
    clear o0 o1 o2 o3 o4 of0 of1 of2 of3 of4 hO1 hC1 hA1 hQ1 hW1
    generalize w1.setCell ⟨w.heap.size + 1 + 1 + 1 + 1, 2, none⟩ (.int .i64 0) = w2 at *
    have hC := hC2
    have hO := hO2
    have hA := hA2
    have hQ := hQ2
    have hW := hW2
    clear hC2 hO2 hA2 hQ2 hW2
    have hL := hlog
    have o0 : w2.cell? ⟨w.heap.size + 1 + 1 + 1 + 1, 0, none⟩ = some (.int .i64 0) := by simp [World.cell?, hO]
    have o1 : w2.cell? ⟨w.heap.size + 1 + 1 + 1 + 1, 1, none⟩ = some (.bool false) := by simp [World.cell?, hO]
    have o2 : w2.cell? ⟨w.heap.size + 1 + 1 + 1 + 1, 2, none⟩ = some (.int .i64 0) := by simp [World.cell?, hO]
    have o3 : w2.cell? ⟨w.heap.size + 1 + 1 + 1 + 1, 3, none⟩ = some (.int .u64 0) := by simp [World.cell?, hO]
    have o4 : w2.cell? ⟨w.heap.size + 1 + 1 + 1 + 1, 4, none⟩ = some (.slice none 0 0) := by simp [World.cell?, hO]
    go_wp2_with fail
    refine (told_any (w.heap.size + 1 + 1 + 1) B n kc ⟨rs.length, true, x⟩ ⟨0, false, 0, 0⟩ _ hC).mono ?_
    rintro e w5 ⟨rfl, hx5⟩
    clear o0 o1 o2 o3 o4
    replace hA := heap_ext hA hx5
    replace hQ := heap_ext hQ hx5
    replace hW := hW.trans hx5
    clear hx5 hO hC hL hlog hsep
    obtain ⟨x0, x1, x2, x3, x4, x5, x6, x7, x8, x9⟩ := x
    simp only [if_true, Acc.cells, OutN.cells, Bool.not_true]
    have e0 : w5.cell? ⟨w.heap.size + 1, 0, none⟩ = some (.int .i64 0) := by simp [World.cell?, hA]
    have ef0 : w5.frozen? ⟨w.heap.size + 1, 0, none⟩ = false := by simp [World.frozen?, hA]
    have e1 : w5.cell? ⟨w.heap.size + 1, 1, none⟩ = some (.int .i64 0) := by simp [World.cell?, hA]
    have ef1 : w5.frozen? ⟨w.heap.size + 1, 1, none⟩ = false := by simp [World.frozen?, hA]
    have e2 : w5.cell? ⟨w.heap.size + 1, 2, none⟩ = some (.int .u64 0) := by simp [World.cell?, hA]
    have ef2 : w5.frozen? ⟨w.heap.size + 1, 2, none⟩ = false := by simp [World.frozen?, hA]
    have e3 : w5.cell? ⟨w.heap.size + 1, 3, none⟩ = some (.int .u64 0) := by simp [World.cell?, hA]
    have ef3 : w5.frozen? ⟨w.heap.size + 1, 3, none⟩ = false := by simp [World.frozen?, hA]
    have e4 : w5.cell? ⟨w.heap.size + 1, 4, none⟩ = some (.slice none 0 0) := by simp [World.cell?, hA]
    have ef4 : w5.frozen? ⟨w.heap.size + 1, 4, none⟩ = false := by simp [World.frozen?, hA]
    have e5 : w5.cell? ⟨w.heap.size + 1, 5, none⟩ = some (.slice none 0 0) := by simp [World.cell?, hA]
    have ef5 : w5.frozen? ⟨w.heap.size + 1, 5, none⟩ = false := by simp [World.frozen?, hA]
    have q0 : w5.cell? ⟨w.heap.size + 1 + 1, 0, none⟩ = some (.int .i64 0) := by simp [World.cell?, hQ]
    have qf0 : w5.frozen? ⟨w.heap.size + 1 + 1, 0, none⟩ = false := by simp [World.frozen?, hQ]
    have q1 : w5.cell? ⟨w.heap.size + 1 + 1, 1, none⟩ = some (.bool false) := by simp [World.cell?, hQ]
    have qf1 : w5.frozen? ⟨w.heap.size + 1 + 1, 1, none⟩ = false := by simp [World.frozen?, hQ]
    have q2 : w5.cell? ⟨w.heap.size + 1 + 1, 2, none⟩ = some (.int .i64 0) := by simp [World.cell?, hQ]
    have qf2 : w5.frozen? ⟨w.heap.size + 1 + 1, 2, none⟩ = false := by simp [World.frozen?, hQ]
    have q3 : w5.cell? ⟨w.heap.size + 1 + 1, 3, none⟩ = some (.int .u64 0) := by simp [World.cell?, hQ]
    have qf3 : w5.frozen? ⟨w.heap.size + 1 + 1, 3, none⟩ = false := by simp [World.frozen?, hQ]
    have q4 : w5.cell? ⟨w.heap.size + 1 + 1, 4, none⟩ = some (.slice none 0 0) := by simp [World.cell?, hQ]
    have qf4 : w5.frozen? ⟨w.heap.size + 1 + 1, 4, none⟩ = false := by simp [World.frozen?, hQ]
    have hPm : (setAll (w.heap.size + 1 + 1) 0 [.int .i64 0, .bool false, .int .i64 0, .int .u64 0, .slice none 0 0] (setAll (w.heap.size + 1) 0 [.int .i64 x0, .int .i64 x1, .int .u64 x2, .int .u64 x3, .slice x4 x5 x6, .slice x7 x8 x9] w5)).heap[w.heap.size + 1 + 1]? = some (.cells #[.int .i64 0, .bool false, .int .i64 0, .int .u64 0, .slice none 0 0] 37 (0, 0)) := setAll_all (vs := [.int .i64 0, .bool false, .int .i64 0, .int .u64 0, .slice none 0 0]) ((setAll_other (g := w.heap.size + 1) (by omega) [.int .i64 x0, .int .i64 x1, .int .u64 x2, .int .u64 x3, .slice x4 x5 x6, .slice x7 x8 x9] 0 w5).trans hQ) rfl
    have hEm : (setAll (w.heap.size + 1 + 1) 0 [.int .i64 0, .bool false, .int .i64 0, .int .u64 0, .slice none 0 0] (setAll (w.heap.size + 1) 0 [.int .i64 x0, .int .i64 x1, .int .u64 x2, .int .u64 x3, .slice x4 x5 x6, .slice x7 x8 x9] w5)).heap[w.heap.size + 1]? = some (.cells #[.int .i64 x0, .int .i64 x1, .int .u64 x2, .int .u64 x3, .slice x4 x5 x6, .slice x7 x8 x9] 33 (0, 0)) := (setAll_other (g := w.heap.size + 1 + 1) (by omega) [.int .i64 0, .bool false, .int .i64 0, .int .u64 0, .slice none 0 0] 0 (setAll (w.heap.size + 1) 0 [.int .i64 x0, .int .i64 x1, .int .u64 x2, .int .u64 x3, .slice x4 x5 x6, .slice x7 x8 x9] w5)).trans (setAll_all (vs := [.int .i64 x0, .int .i64 x1, .int .u64 x2, .int .u64 x3, .slice x4 x5 x6, .slice x7 x8 x9]) hA rfl)
    have hF : Ext w (setAll (w.heap.size + 1 + 1) 0 [.int .i64 0, .bool false, .int .i64 0, .int .u64 0, .slice none 0 0] (setAll (w.heap.size + 1) 0 [.int .i64 x0, .int .i64 x1, .int .u64 x2, .int .u64 x3, .slice x4 x5 x6, .slice x7 x8 x9] w5)) := setAll_ext (g := w.heap.size + 1 + 1) (setAll_ext (g := w.heap.size + 1) hW (by omega)) (by omega)
    simp only [setAll] at hPm hEm hF
    clear hA hQ hW
    go_wp2
    generalize (((((((((((w5.setCell ⟨w.heap.size + 1, 0, none⟩ (.int .i64 x0)).setCell ⟨w.heap.size + 1, 1, none⟩ (.int .i64 x1)).setCell ⟨w.heap.size + 1, 2, none⟩ (.int .u64 x2)).setCell ⟨w.heap.size + 1, 3, none⟩ (.int .u64 x3)).setCell ⟨w.heap.size + 1, 4, none⟩ (.slice x4 x5 x6)).setCell ⟨w.heap.size + 1, 5, none⟩ (.slice x7 x8 x9)).setCell ⟨w.heap.size + 1 + 1, 0, none⟩ (.int .i64 0)).setCell ⟨w.heap.size + 1 + 1, 1, none⟩ (.bool false)).setCell ⟨w.heap.size + 1 + 1, 2, none⟩ (.int .i64 0)).setCell ⟨w.heap.size + 1 + 1, 3, none⟩ (.int .u64 0)).setCell ⟨w.heap.size + 1 + 1, 4, none⟩ (.slice none 0 0)) = wf at *
    clear e0 e1 e2 e3 e4 e5 ef0 ef1 ef2 ef3 ef4 ef5 q0 q1 q2 q3 q4 qf0 qf1 qf2 qf3 qf4
    have e0 : wf.cell? ⟨w.heap.size + 1, 0, none⟩ = some (.int .i64 x0) := by simp [World.cell?, hEm]
    have e1 : wf.cell? ⟨w.heap.size + 1, 1, none⟩ = some (.int .i64 x1) := by simp [World.cell?, hEm]
    have e2 : wf.cell? ⟨w.heap.size + 1, 2, none⟩ = some (.int .u64 x2) := by simp [World.cell?, hEm]
    have e3 : wf.cell? ⟨w.heap.size + 1, 3, none⟩ = some (.int .u64 x3) := by simp [World.cell?, hEm]
    have e4 : wf.cell? ⟨w.heap.size + 1, 4, none⟩ = some (.slice x4 x5 x6) := by simp [World.cell?, hEm]
    have e5 : wf.cell? ⟨w.heap.size + 1, 5, none⟩ = some (.slice x7 x8 x9) := by simp [World.cell?, hEm]
    have q0 : wf.cell? ⟨w.heap.size + 1 + 1, 0, none⟩ = some (.int .i64 0) := by simp [World.cell?, hPm]
    have q1 : wf.cell? ⟨w.heap.size + 1 + 1, 1, none⟩ = some (.bool false) := by simp [World.cell?, hPm]
    have q2 : wf.cell? ⟨w.heap.size + 1 + 1, 2, none⟩ = some (.int .i64 0) := by simp [World.cell?, hPm]
    have q3 : wf.cell? ⟨w.heap.size + 1 + 1, 3, none⟩ = some (.int .u64 0) := by simp [World.cell?, hPm]
    have q4 : wf.cell? ⟨w.heap.size + 1 + 1, 4, none⟩ = some (.slice none 0 0) := by simp [World.cell?, hPm]
    refine bodyPost_ret (v := .tuple #[.agg #[.int .i64 x0, .int .i64 x1, .int .u64 x2, .int .u64 x3, .slice x4 x5 x6, .slice x7 x8 x9], .agg #[.int .i64 0, .bool false, .int .i64 0, .int .u64 0, .slice none 0 0], .bool false]) (by simp [results, Try.results18, go_sem, e0, e1, e2, e3, e4, e5, q0, q1, q2, q3, q4]) rfl ⟨by rw [HN.out, hE]; rfl, hF⟩
  | ret r k =>
    have hE : E = .done ⟨0, false, r, 0⟩ := by rw [← HN.out]; simp [poolN, hPN]
    rw [hPN] at hC1
    try rw [hPN]
    simp only [Cu.after, ProgE.val] at hC1 ⊢
    clear hPN
    have o0 : w1.cell? ⟨w.heap.size + 1 + 1 + 1 + 1, 0, none⟩ = some (.int .i64 0) := by simp [World.cell?, hO1]
    have of0 : w1.frozen? ⟨w.heap.size + 1 + 1 + 1 + 1, 0, none⟩ = false := by simp [World.frozen?, hO1]
    have o1 : w1.cell? ⟨w.heap.size + 1 + 1 + 1 + 1, 1, none⟩ = some (.bool false) := by simp [World.cell?, hO1]
    have of1 : w1.frozen? ⟨w.heap.size + 1 + 1 + 1 + 1, 1, none⟩ = false := by simp [World.frozen?, hO1]
    have o2 : w1.cell? ⟨w.heap.size + 1 + 1 + 1 + 1, 2, none⟩ = some (.int .i64 0) := by simp [World.cell?, hO1]
    have of2 : w1.frozen? ⟨w.heap.size + 1 + 1 + 1 + 1, 2, none⟩ = false := by simp [World.frozen?, hO1]
    have o3 : w1.cell? ⟨w.heap.size + 1 + 1 + 1 + 1, 3, none⟩ = some (.int .u64 0) := by simp [World.cell?, hO1]
    have of3 : w1.frozen? ⟨w.heap.size + 1 + 1 + 1 + 1, 3, none⟩ = false := by simp [World.frozen?, hO1]
    have o4 : w1.cell? ⟨w.heap.size + 1 + 1 + 1 + 1, 4, none⟩ = some (.slice none 0 0) := by simp [World.cell?, hO1]
    have of4 : w1.frozen? ⟨w.heap.size + 1 + 1 + 1 + 1, 4, none⟩ = false := by simp [World.frozen?, hO1]
    go_upto_region 9 with (fail)
    have hO2 : (w1.setCell ⟨w.heap.size + 1 + 1 + 1 + 1, 2, none⟩ (.int .i64 r)).heap[w.heap.size + 1 + 1 + 1 + 1]? = some (.cells #[.int .i64 0, .bool false, .int .i64 r, .int .u64 0, .slice none 0 0] 37 (0, 0)) := heap_setCell_at hO1
    have hC2 : CurAt (w1.setCell ⟨w.heap.size + 1 + 1 + 1 + 1, 2, none⟩ (.int .i64 r)) (w.heap.size + 1 + 1 + 1) B n kc _ := (Below.heap_setCell _ _ _ _ (by simp)).trans hC1
    have hA2 : (w1.setCell ⟨w.heap.size + 1 + 1 + 1 + 1, 2, none⟩ (.int .i64 r)).heap[w.heap.size + 1]? = _ := (Below.heap_setCell _ _ _ _ (by simp <;> omega)).trans hA1
    have hQ2 : (w1.setCell ⟨w.heap.size + 1 + 1 + 1 + 1, 2, none⟩ (.int .i64 r)).heap[w.heap.size + 1 + 1]? = _ := (Below.heap_setCell _ _ _ _ (by simp <;> omega)).trans hQ1
    have hW2 : Ext w (w1.setCell ⟨w.heap.size + 1 + 1 + 1 + 1, 2, none⟩ (.int .i64 r)) := hW1.setCell (by simp; omega) _
    clear o0 o1 o2 o3 o4 of0 of1 of2 of3 of4 hO1 hC1 hA1 hQ1 hW1
    generalize w1.setCell ⟨w.heap.size + 1 + 1 + 1 + 1, 2, none⟩ (.int .i64 r) = w2 at *
    have hC := hC2
    have hO := hO2
    have hA := hA2
    have hQ := hQ2
    have hW := hW2
    clear hC2 hO2 hA2 hQ2 hW2
    have hL := hlog
    have o0 : w2.cell? ⟨w.heap.size + 1 + 1 + 1 + 1, 0, none⟩ = some (.int .i64 0) := by simp [World.cell?, hO]
    have o1 : w2.cell? ⟨w.heap.size + 1 + 1 + 1 + 1, 1, none⟩ = some (.bool false) := by simp [World.cell?, hO]
    have o2 : w2.cell? ⟨w.heap.size + 1 + 1 + 1 + 1, 2, none⟩ = some (.int .i64 r) := by simp [World.cell?, hO]
    have o3 : w2.cell? ⟨w.heap.size + 1 + 1 + 1 + 1, 3, none⟩ = some (.int .u64 0) := by simp [World.cell?, hO]
    have o4 : w2.cell? ⟨w.heap.size + 1 + 1 + 1 + 1, 4, none⟩ = some (.slice none 0 0) := by simp [World.cell?, hO]
    go_wp2_with fail
    refine (told_any (w.heap.size + 1 + 1 + 1) B n kc ⟨k, false, Acc.zero⟩ ⟨0, false, r, 0⟩ _ hC).mono ?_
    rintro e w5 ⟨rfl, hx5⟩
    clear o0 o1 o2 o3 o4
    replace hA := heap_ext hA hx5
    replace hQ := heap_ext hQ hx5
    replace hW := hW.trans hx5
    clear hx5 hO hC hL hlog hsep
    simp only [Bool.false_eq_true, if_false, Acc.cells, Acc.zero, OutN.cells, Bool.not_false]
    have e0 : w5.cell? ⟨w.heap.size + 1, 0, none⟩ = some (.int .i64 0) := by simp [World.cell?, hA]
    have ef0 : w5.frozen? ⟨w.heap.size + 1, 0, none⟩ = false := by simp [World.frozen?, hA]
    have e1 : w5.cell? ⟨w.heap.size + 1, 1, none⟩ = some (.int .i64 0) := by simp [World.cell?, hA]
    have ef1 : w5.frozen? ⟨w.heap.size + 1, 1, none⟩ = false := by simp [World.frozen?, hA]
    have e2 : w5.cell? ⟨w.heap.size + 1, 2, none⟩ = some (.int .u64 0) := by simp [World.cell?, hA]
    have ef2 : w5.frozen? ⟨w.heap.size + 1, 2, none⟩ = false := by simp [World.frozen?, hA]
    have e3 : w5.cell? ⟨w.heap.size + 1, 3, none⟩ = some (.int .u64 0) := by simp [World.cell?, hA]
    have ef3 : w5.frozen? ⟨w.heap.size + 1, 3, none⟩ = false := by simp [World.frozen?, hA]
    have e4 : w5.cell? ⟨w.heap.size + 1, 4, none⟩ = some (.slice none 0 0) := by simp [World.cell?, hA]
    have ef4 : w5.frozen? ⟨w.heap.size + 1, 4, none⟩ = false := by simp [World.frozen?, hA]
    have e5 : w5.cell? ⟨w.heap.size + 1, 5, none⟩ = some (.slice none 0 0) := by simp [World.cell?, hA]
    have ef5 : w5.frozen? ⟨w.heap.size + 1, 5, none⟩ = false := by simp [World.frozen?, hA]
    have q0 : w5.cell? ⟨w.heap.size + 1 + 1, 0, none⟩ = some (.int .i64 0) := by simp [World.cell?, hQ]
    have qf0 : w5.frozen? ⟨w.heap.size + 1 + 1, 0, none⟩ = false := by simp [World.frozen?, hQ]
    have q1 : w5.cell? ⟨w.heap.size + 1 + 1, 1, none⟩ = some (.bool false) := by simp [World.cell?, hQ]
    have qf1 : w5.frozen? ⟨w.heap.size + 1 + 1, 1, none⟩ = false := by simp [World.frozen?, hQ]
    have q2 : w5.cell? ⟨w.heap.size + 1 + 1, 2, none⟩ = some (.int .i64 0) := by simp [World.cell?, hQ]
    have qf2 : w5.frozen? ⟨w.heap.size + 1 + 1, 2, none⟩ = false := by simp [World.frozen?, hQ]
    have q3 : w5.cell? ⟨w.heap.size + 1 + 1, 3, none⟩ = some (.int .u64 0) := by simp [World.cell?, hQ]
    have qf3 : w5.frozen? ⟨w.heap.size + 1 + 1, 3, none⟩ = false := by simp [World.frozen?, hQ]
    have q4 : w5.cell? ⟨w.heap.size + 1 + 1, 4, none⟩ = some (.slice none 0 0) := by simp [World.cell?, hQ]
    have qf4 : w5.frozen? ⟨w.heap.size + 1 + 1, 4, none⟩ = false := by simp [World.frozen?, hQ]
    have hPm : (setAll (w.heap.size + 1 + 1) 0 [.int .i64 0, .bool false, .int .i64 r, .int .u64 0, .slice none 0 0] (setAll (w.heap.size + 1) 0 [.int .i64 0, .int .i64 0, .int .u64 0, .int .u64 0, .slice none 0 0, .slice none 0 0] w5)).heap[w.heap.size + 1 + 1]? = some (.cells #[.int .i64 0, .bool false, .int .i64 r, .int .u64 0, .slice none 0 0] 37 (0, 0)) := setAll_all (vs := [.int .i64 0, .bool false, .int .i64 r, .int .u64 0, .slice none 0 0]) ((setAll_other (g := w.heap.size + 1) (by omega) [.int .i64 0, .int .i64 0, .int .u64 0, .int .u64 0, .slice none 0 0, .slice none 0 0] 0 w5).trans hQ) rfl
    have hEm : (setAll (w.heap.size + 1 + 1) 0 [.int .i64 0, .bool false, .int .i64 r, .int .u64 0, .slice none 0 0] (setAll (w.heap.size + 1) 0 [.int .i64 0, .int .i64 0, .int .u64 0, .int .u64 0, .slice none 0 0, .slice none 0 0] w5)).heap[w.heap.size + 1]? = some (.cells #[.int .i64 0, .int .i64 0, .int .u64 0, .int .u64 0, .slice none 0 0, .slice none 0 0] 33 (0, 0)) := (setAll_other (g := w.heap.size + 1 + 1) (by omega) [.int .i64 0, .bool false, .int .i64 r, .int .u64 0, .slice none 0 0] 0 (setAll (w.heap.size + 1) 0 [.int .i64 0, .int .i64 0, .int .u64 0, .int .u64 0, .slice none 0 0, .slice none 0 0] w5)).trans (setAll_all (vs := [.int .i64 0, .int .i64 0, .int .u64 0, .int .u64 0, .slice none 0 0, .slice none 0 0]) hA rfl)
    have hF : Ext w (setAll (w.heap.size + 1 + 1) 0 [.int .i64 0, .bool false, .int .i64 r, .int .u64 0, .slice none 0 0] (setAll (w.heap.size + 1) 0 [.int .i64 0, .int .i64 0, .int .u64 0, .int .u64 0, .slice none 0 0, .slice none 0 0] w5)) := setAll_ext (g := w.heap.size + 1 + 1) (setAll_ext (g := w.heap.size + 1) hW (by omega)) (by omega)
    simp only [setAll] at hPm hEm hF
    clear hA hQ hW
    go_wp2
    generalize (((((((((((w5.setCell ⟨w.heap.size + 1, 0, none⟩ (.int .i64 0)).setCell ⟨w.heap.size + 1, 1, none⟩ (.int .i64 0)).setCell ⟨w.heap.size + 1, 2, none⟩ (.int .u64 0)).setCell ⟨w.heap.size + 1, 3, none⟩ (.int .u64 0)).setCell ⟨w.heap.size + 1, 4, none⟩ (.slice none 0 0)).setCell ⟨w.heap.size + 1, 5, none⟩ (.slice none 0 0)).setCell ⟨w.heap.size + 1 + 1, 0, none⟩ (.int .i64 0)).setCell ⟨w.heap.size + 1 + 1, 1, none⟩ (.bool false)).setCell ⟨w.heap.size + 1 + 1, 2, none⟩ (.int .i64 r)).setCell ⟨w.heap.size + 1 + 1, 3, none⟩ (.int .u64 0)).setCell ⟨w.heap.size + 1 + 1, 4, none⟩ (.slice none 0 0)) = wf at *
    clear e0 e1 e2 e3 e4 e5 ef0 ef1 ef2 ef3 ef4 ef5 q0 q1 q2 q3 q4 qf0 qf1 qf2 qf3 qf4
    have e0 : wf.cell? ⟨w.heap.size + 1, 0, none⟩ = some (.int .i64 0) := by simp [World.cell?, hEm]
    have e1 : wf.cell? ⟨w.heap.size + 1, 1, none⟩ = some (.int .i64 0) := by simp [World.cell?, hEm]
    have e2 : wf.cell? ⟨w.heap.size + 1, 2, none⟩ = some (.int .u64 0) := by simp [World.cell?, hEm]
    have e3 : wf.cell? ⟨w.heap.size + 1, 3, none⟩ = some (.int .u64 0) := by simp [World.cell?, hEm]
    have e4 : wf.cell? ⟨w.heap.size + 1, 4, none⟩ = some (.slice none 0 0) := by simp [World.cell?, hEm]
    have e5 : wf.cell? ⟨w.heap.size + 1, 5, none⟩ = some (.slice none 0 0) := by simp [World.cell?, hEm]
    have q0 : wf.cell? ⟨w.heap.size + 1 + 1, 0, none⟩ = some (.int .i64 0) := by simp [World.cell?, hPm]
    have q1 : wf.cell? ⟨w.heap.size + 1 + 1, 1, none⟩ = some (.bool false) := by simp [World.cell?, hPm]
    have q2 : wf.cell? ⟨w.heap.size + 1 + 1, 2, none⟩ = some (.int .i64 r) := by simp [World.cell?, hPm]
    have q3 : wf.cell? ⟨w.heap.size + 1 + 1, 3, none⟩ = some (.int .u64 0) := by simp [World.cell?, hPm]
    have q4 : wf.cell? ⟨w.heap.size + 1 + 1, 4, none⟩ = some (.slice none 0 0) := by simp [World.cell?, hPm]
    refine bodyPost_ret (v := .tuple #[.agg #[.int .i64 0, .int .i64 0, .int .u64 0, .int .u64 0, .slice none 0 0, .slice none 0 0], .agg #[.int .i64 0, .bool false, .int .i64 r, .int .u64 0, .slice none 0 0], .bool true]) (by simp [results, Try.results18, go_sem, e0, e1, e2, e3, e4, e5, q0, q1, q2, q3, q4]) rfl ⟨by rw [HN.out, hE]; rfl, hF⟩
set_option maxRecDepth 100000 in
set_option maxHeartbeats 4000000 in
theorem rnext_push (t u v d : Int) (ht1 : 0 ≤ t) (ht2 : t ≤ 64) (hu1 : 0 ≤ u) (hu2 : u < 1048576) (B : Option Addr) (n kc : Nat) (rs : List Res) (w : World) (hlog : LogV w B n kc rs) (hU : GoodR rs) :
    Calls Try.prog 18 #[.int .i64 t, .agg #[.int .i64 2, .int .i64 u, .int .i64 v, .int .u64 d], .slice B n kc] w fun e w' => e = (poolN t 2 u (rs.map Res.n)).fin ∧ Ext w w' := by
  obtain ⟨E, hE0⟩ : ∃ E, poolN t 2 u (rs.map Res.n) = E := ⟨_, rfl⟩
  have HN := Lib.hid hE0
  clear hE0
  have hmk : ∀ W : World, (Instr.build 142 #[(0, .slice B n kc)]).run Try.prog W = .ok (.agg #[.slice B n kc, .int .i64 0, .bool false, .int .i64 0, .int .i64 0, .int .u64 0, .int .u64 0, .slice none 0 0, .slice none 0 0]) W := fun _ => by kernel_rfl
  have hmo : ∀ W : World, (Instr.build 37 #[]).run Try.prog W = .ok (.agg #[.int .i64 0, .bool false, .int .i64 0, .int .u64 0, .slice none 0 0]) W := fun _ => by kernel_rfl
  have hsep : ∀ a, B = some a → 0 < n → a.block ≠ w.heap.size + 1 + 1 + 1 := fun a ha hk => by subst ha; have := hlog.low hk; omega
  go_enter Try.func18, Try.ntmps18
  go_upto_region 3 with (fail)
  obtain ⟨hW, hP, hA, hQ, hC, hO⟩ := boxes5n w (.cells #[.int .i64 2, .int .i64 u, .int .i64 v, .int .u64 d] 24) (.cells #[.int .i64 0, .int .i64 0, .int .u64 0, .int .u64 0, .slice none 0 0, .slice none 0 0] 33) (.cells #[.int .i64 0, .bool false, .int .i64 0, .int .u64 0, .slice none 0 0] 37) (.cells #[.slice B n kc, .int .i64 0, .bool false, .int .i64 0, .int .i64 0, .int .u64 0, .int .u64 0, .slice none 0 0, .slice none 0 0] 142) (.cells #[.int .i64 0, .bool false, .int .i64 0, .int .u64 0, .slice none 0 0] 37)
  generalize ((((w.alloc (.cells #[.int .i64 2, .int .i64 u, .int .i64 v, .int .u64 d] 24)).alloc (.cells #[.int .i64 0, .int .i64 0, .int .u64 0, .int .u64 0, .slice none 0 0, .slice none 0 0] 33)).alloc (.cells #[.int .i64 0, .bool false, .int .i64 0, .int .u64 0, .slice none 0 0] 37)).alloc (.cells #[.slice B n kc, .int .i64 0, .bool false, .int .i64 0, .int .i64 0, .int .u64 0, .int .u64 0, .slice none 0 0, .slice none 0 0] 142)).alloc (.cells #[.int .i64 0, .bool false, .int .i64 0, .int .u64 0, .slice none 0 0] 37) = W at *
  have hC : CurAt W (w.heap.size + 1 + 1 + 1) B n kc ⟨0, false, Acc.zero⟩ := hC
  have hL := hlog.ext hW
  have p0 : W.cell? ⟨w.heap.size, 0, none⟩ = some (.int .i64 2) := by simp [World.cell?, hP]
  have p1 : W.cell? ⟨w.heap.size, 1, none⟩ = some (.int .i64 u) := by simp [World.cell?, hP]
  have p2 : W.cell? ⟨w.heap.size, 2, none⟩ = some (.int .i64 v) := by simp [World.cell?, hP]
  have p3 : W.cell? ⟨w.heap.size, 3, none⟩ = some (.int .u64 d) := by simp [World.cell?, hP]
  go_wp2_with fail
  refine (rpush_any t u (w.heap.size + 1 + 1 + 1) B n kc ⟨0, false, Acc.zero⟩ rs _ hL hsep hC rfl (Nat.zero_le _) ht1 ht2 hu1 hu2 hU).mono ?_
  rintro e w1 ⟨rfl, hC1, hx⟩
  have hO1 := hx.heap hO (by omega)
  have hA1 := hx.heap hA (by omega)
  have hQ1 := hx.heap hQ (by omega)
  have hW1 := hx.ext hW (by omega)
  clear hC hO hA hQ hW hL p0 p1 p2 p3 hP hx
  simp only [List.drop_zero] at hC1 ⊢
  cases hPN : pushN t u 0 (rs.map Res.n) with
  | stop x =>
    have hE : E = .stop x := by rw [← HN.out]; simp [poolN, hPN]
    rw [hPN] at hC1
    try rw [hPN]
    simp only [Cu.after, ProgE.val] at hC1 ⊢
    clear hPN
    have hC := hC1
    have hO := hO1
    have hA := hA1
    have hQ := hQ1
    have hW := hW1
    clear hC1 hO1 hA1 hQ1 hW1
    have hL := hlog
    have o0 : w1.cell? ⟨w.heap.size + 1 + 1 + 1 + 1, 0, none⟩ = some (.int .i64 0) := by simp [World.cell?, hO]
    have o1 : w1.cell? ⟨w.heap.size + 1 + 1 + 1 + 1, 1, none⟩ = some (.bool false) := by simp [World.cell?, hO]
    have o2 : w1.cell? ⟨w.heap.size + 1 + 1 + 1 + 1, 2, none⟩ = some (.int .i64 0) := by simp [World.cell?, hO]
    have o3 : w1.cell? ⟨w.heap.size + 1 + 1 + 1 + 1, 3, none⟩ = some (.int .u64 0) := by simp [World.cell?, hO]
    have o4 : w1.cell? ⟨w.heap.size + 1 + 1 + 1 + 1, 4, none⟩ = some (.slice none 0 0) := by simp [World.cell?, hO]
    go_wp2_with fail
    refine (told_any (w.heap.size + 1 + 1 + 1) B n kc ⟨rs.length, true, x⟩ ⟨0, false, 0, 0⟩ _ hC).mono ?_
    rintro e w5 ⟨rfl, hx5⟩
    clear o0 o1 o2 o3 o4
    replace hA := heap_ext hA hx5
    replace hQ := heap_ext hQ hx5
    replace hW := hW.trans hx5
    clear hx5 hO hC hL hlog hsep
    obtain ⟨x0, x1, x2, x3, x4, x5, x6, x7, x8, x9⟩ := x
    simp only [if_true, Acc.cells, OutN.cells, Bool.not_true]
    have e0 : w5.cell? ⟨w.heap.size + 1, 0, none⟩ = some (.int .i64 0) := by simp [World.cell?, hA]
    have ef0 : w5.frozen? ⟨w.heap.size + 1, 0, none⟩ = false := by simp [World.frozen?, hA]
    have e1 : w5.cell? ⟨w.heap.size + 1, 1, none⟩ = some (.int .i64 0) := by simp [World.cell?, hA]
    have ef1 : w5.frozen? ⟨w.heap.size + 1, 1, none⟩ = false := by simp [World.frozen?, hA]
    have e2 : w5.cell? ⟨w.heap.size + 1, 2, none⟩ = some (.int .u64 0) := by simp [World.cell?, hA]
    have ef2 : w5.frozen? ⟨w.heap.size + 1, 2, none⟩ = false := by simp [World.frozen?, hA]
    have e3 : w5.cell? ⟨w.heap.size + 1, 3, none⟩ = some (.int .u64 0) := by simp [World.cell?, hA]
    have ef3 : w5.frozen? ⟨w.heap.size + 1, 3, none⟩ = false := by simp [World.frozen?, hA]
    have e4 : w5.cell? ⟨w.heap.size + 1, 4, none⟩ = some (.slice none 0 0) := by simp [World.cell?, hA]
    have ef4 : w5.frozen? ⟨w.heap.size + 1, 4, none⟩ = false := by simp [World.frozen?, hA]
    have e5 : w5.cell? ⟨w.heap.size + 1, 5, none⟩ = some (.slice none 0 0) := by simp [World.cell?, hA]
    have ef5 : w5.frozen? ⟨w.heap.size + 1, 5, none⟩ = false := by simp [World.frozen?, hA]
    have q0 : w5.cell? ⟨w.heap.size + 1 + 1, 0, none⟩ = some (.int .i64 0) := by simp [World.cell?, hQ]
    have qf0 : w5.frozen? ⟨w.heap.size + 1 + 1, 0, none⟩ = false := by simp [World.frozen?, hQ]
    have q1 : w5.cell? ⟨w.heap.size + 1 + 1, 1, none⟩ = some (.bool false) := by simp [World.cell?, hQ]
    have qf1 : w5.frozen? ⟨w.heap.size + 1 + 1, 1, none⟩ = false := by simp [World.frozen?, hQ]
    have q2 : w5.cell? ⟨w.heap.size + 1 + 1, 2, none⟩ = some (.int .i64 0) := by simp [World.cell?, hQ]
    have qf2 : w5.frozen? ⟨w.heap.size + 1 + 1, 2, none⟩ = false := by simp [World.frozen?, hQ]
    have q3 : w5.cell? ⟨w.heap.size + 1 + 1, 3, none⟩ = some (.int .u64 0) := by simp [World.cell?, hQ]
    have qf3 : w5.frozen? ⟨w.heap.size + 1 + 1, 3, none⟩ = false := by simp [World.frozen?, hQ]
    have q4 : w5.cell? ⟨w.heap.size + 1 + 1, 4, none⟩ = some (.slice none 0 0) := by simp [World.cell?, hQ]
    have qf4 : w5.frozen? ⟨w.heap.size + 1 + 1, 4, none⟩ = false := by simp [World.frozen?, hQ]
    have hPm : (setAll (w.heap.size + 1 + 1) 0 [.int .i64 0, .bool false, .int .i64 0, .int .u64 0, .slice none 0 0] (setAll (w.heap.size + 1) 0 [.int .i64 x0, .int .i64 x1, .int .u64 x2, .int .u64 x3, .slice x4 x5 x6, .slice x7 x8 x9] w5)).heap[w.heap.size + 1 + 1]? = some (.cells #[.int .i64 0, .bool false, .int .i64 0, .int .u64 0, .slice none 0 0] 37 (0, 0)) := setAll_all (vs := [.int .i64 0, .bool false, .int .i64 0, .int .u64 0, .slice none 0 0]) ((setAll_other (g := w.heap.size + 1) (by omega) [.int .i64 x0, .int .i64 x1, .int .u64 x2, .int .u64 x3, .slice x4 x5 x6, .slice x7 x8 x9] 0 w5).trans hQ) rfl
    have hEm : (setAll (w.heap.size + 1 + 1) 0 [.int .i64 0, .bool false, .int .i64 0, .int .u64 0, .slice none 0 0] (setAll (w.heap.size + 1) 0 [.int .i64 x0, .int .i64 x1, .int .u64 x2, .int .u64 x3, .slice x4 x5 x6, .slice x7 x8 x9] w5)).heap[w.heap.size + 1]? = some (.cells #[.int .i64 x0, .int .i64 x1, .int .u64 x2, .int .u64 x3, .slice x4 x5 x6, .slice x7 x8 x9] 33 (0, 0)) := (setAll_other (g := w.heap.size + 1 + 1) (by omega) [.int .i64 0, .bool false, .int .i64 0, .int .u64 0, .slice none 0 0] 0 (setAll (w.heap.size + 1) 0 [.int .i64 x0, .int .i64 x1, .int .u64 x2, .int .u64 x3, .slice x4 x5 x6, .slice x7 x8 x9] w5)).trans (setAll_all (vs := [.int .i64 x0, .int .i64 x1, .int .u64 x2, .int .u64 x3, .slice x4 x5 x6, .slice x7 x8 x9]) hA rfl)
    have hF : Ext w (setAll (w.heap.size + 1 + 1) 0 [.int .i64 0, .bool false, .int .i64 0, .int .u64 0, .slice none 0 0] (setAll (w.heap.size + 1) 0 [.int .i64 x0, .int .i64 x1, .int .u64 x2, .int .u64 x3, .slice x4 x5 x6, .slice x7 x8 x9] w5)) := setAll_ext (g := w.heap.size + 1 + 1) (setAll_ext (g := w.heap.size + 1) hW (by omega)) (by omega)
    simp only [setAll] at hPm hEm hF
    clear hA hQ hW
    go_wp2
    generalize (((((((((((w5.setCell ⟨w.heap.size + 1, 0, none⟩ (.int .i64 x0)).setCell ⟨w.heap.size + 1, 1, none⟩ (.int .i64 x1)).setCell ⟨w.heap.size + 1, 2, none⟩ (.int .u64 x2)).setCell ⟨w.heap.size + 1, 3, none⟩ (.int .u64 x3)).setCell ⟨w.heap.size + 1, 4, none⟩ (.slice x4 x5 x6)).setCell ⟨w.heap.size + 1, 5, none⟩ (.slice x7 x8 x9)).setCell ⟨w.heap.size + 1 + 1, 0, none⟩ (.int .i64 0)).setCell ⟨w.heap.size + 1 + 1, 1, none⟩ (.bool false)).setCell ⟨w.heap.size + 1 + 1, 2, none⟩ (.int .i64 0)).setCell ⟨w.heap.size + 1 + 1, 3, none⟩ (.int .u64 0)).setCell ⟨w.heap.size + 1 + 1, 4, none⟩ (.slice none 0 0)) = wf at *
    clear e0 e1 e2 e3 e4 e5 ef0 ef1 ef2 ef3 ef4 ef5 q0 q1 q2 q3 q4 qf0 qf1 qf2 qf3 qf4
    have e0 : wf.cell? ⟨w.heap.size + 1, 0, none⟩ = some (.int .i64 x0) := by simp [World.cell?, hEm]
    have e1 : wf.cell? ⟨w.heap.size + 1, 1, none⟩ = some (.int .i64 x1) := by simp [World.cell?, hEm]
    have e2 : wf.cell? ⟨w.heap.size + 1, 2, none⟩ = some (.int .u64 x2) := by simp [World.cell?, hEm]
    have e3 : wf.cell? ⟨w.heap.size + 1, 3, none⟩ = some (.int .u64 x3) := by simp [World.cell?, hEm]
    have e4 : wf.cell? ⟨w.heap.size + 1, 4, none⟩ = some (.slice x4 x5 x6) := by simp [World.cell?, hEm]
    have e5 : wf.cell? ⟨w.heap.size + 1, 5, none⟩ = some (.slice x7 x8 x9) := by simp [World.cell?, hEm]
    have q0 : wf.cell? ⟨w.heap.size + 1 + 1, 0, none⟩ = some (.int .i64 0) := by simp [World.cell?, hPm]
    have q1 : wf.cell? ⟨w.heap.size + 1 + 1, 1, none⟩ = some (.bool false) := by simp [World.cell?, hPm]
    have q2 : wf.cell? ⟨w.heap.size + 1 + 1, 2, none⟩ = some (.int .i64 0) := by simp [World.cell?, hPm]
    have q3 : wf.cell? ⟨w.heap.size + 1 + 1, 3, none⟩ = some (.int .u64 0) := by simp [World.cell?, hPm]
    have q4 : wf.cell? ⟨w.heap.size + 1 + 1, 4, none⟩ = some (.slice none 0 0) := by simp [World.cell?, hPm]
    refine bodyPost_ret (v := .tuple #[.agg #[.int .i64 x0, .int .i64 x1, .int .u64 x2, .int .u64 x3, .slice x4 x5 x6, .slice x7 x8 x9], .agg #[.int .i64 0, .bool false, .int .i64 0, .int .u64 0, .slice none 0 0], .bool false]) (by simp [results, Try.results18, go_sem, e0, e1, e2, e3, e4, e5, q0, q1, q2, q3, q4]) rfl ⟨by rw [HN.out, hE]; rfl, hF⟩
  | ret r k =>
    have hE : E = .done ⟨0, false, 0, 0⟩ := by rw [← HN.out]; simp [poolN, hPN]
    rw [hPN] at hC1
    try rw [hPN]
    simp only [Cu.after, ProgE.val] at hC1 ⊢
    clear hPN
    have hC := hC1
    have hO := hO1
    have hA := hA1
    have hQ := hQ1
    have hW := hW1
    clear hC1 hO1 hA1 hQ1 hW1
    have hL := hlog
    have o0 : w1.cell? ⟨w.heap.size + 1 + 1 + 1 + 1, 0, none⟩ = some (.int .i64 0) := by simp [World.cell?, hO]
    have o1 : w1.cell? ⟨w.heap.size + 1 + 1 + 1 + 1, 1, none⟩ = some (.bool false) := by simp [World.cell?, hO]
    have o2 : w1.cell? ⟨w.heap.size + 1 + 1 + 1 + 1, 2, none⟩ = some (.int .i64 0) := by simp [World.cell?, hO]
    have o3 : w1.cell? ⟨w.heap.size + 1 + 1 + 1 + 1, 3, none⟩ = some (.int .u64 0) := by simp [World.cell?, hO]
    have o4 : w1.cell? ⟨w.heap.size + 1 + 1 + 1 + 1, 4, none⟩ = some (.slice none 0 0) := by simp [World.cell?, hO]
    go_wp2_with fail
    refine (told_any (w.heap.size + 1 + 1 + 1) B n kc ⟨k, false, Acc.zero⟩ ⟨0, false, 0, 0⟩ _ hC).mono ?_
    rintro e w5 ⟨rfl, hx5⟩
    clear o0 o1 o2 o3 o4
    replace hA := heap_ext hA hx5
    replace hQ := heap_ext hQ hx5
    replace hW := hW.trans hx5
    clear hx5 hO hC hL hlog hsep
    simp only [Bool.false_eq_true, if_false, Acc.cells, Acc.zero, OutN.cells, Bool.not_false]
    have e0 : w5.cell? ⟨w.heap.size + 1, 0, none⟩ = some (.int .i64 0) := by simp [World.cell?, hA]
    have ef0 : w5.frozen? ⟨w.heap.size + 1, 0, none⟩ = false := by simp [World.frozen?, hA]
    have e1 : w5.cell? ⟨w.heap.size + 1, 1, none⟩ = some (.int .i64 0) := by simp [World.cell?, hA]
    have ef1 : w5.frozen? ⟨w.heap.size + 1, 1, none⟩ = false := by simp [World.frozen?, hA]
    have e2 : w5.cell? ⟨w.heap.size + 1, 2, none⟩ = some (.int .u64 0) := by simp [World.cell?, hA]
    have ef2 : w5.frozen? ⟨w.heap.size + 1, 2, none⟩ = false := by simp [World.frozen?, hA]
    have e3 : w5.cell? ⟨w.heap.size + 1, 3, none⟩ = some (.int .u64 0) := by simp [World.cell?, hA]
    have ef3 : w5.frozen? ⟨w.heap.size + 1, 3, none⟩ = false := by simp [World.frozen?, hA]
    have e4 : w5.cell? ⟨w.heap.size + 1, 4, none⟩ = some (.slice none 0 0) := by simp [World.cell?, hA]
    have ef4 : w5.frozen? ⟨w.heap.size + 1, 4, none⟩ = false := by simp [World.frozen?, hA]
    have e5 : w5.cell? ⟨w.heap.size + 1, 5, none⟩ = some (.slice none 0 0) := by simp [World.cell?, hA]
    have ef5 : w5.frozen? ⟨w.heap.size + 1, 5, none⟩ = false := by simp [World.frozen?, hA]
    have q0 : w5.cell? ⟨w.heap.size + 1 + 1, 0, none⟩ = some (.int .i64 0) := by simp [World.cell?, hQ]
    have qf0 : w5.frozen? ⟨w.heap.size + 1 + 1, 0, none⟩ = false := by simp [World.frozen?, hQ]
    have q1 : w5.cell? ⟨w.heap.size + 1 + 1, 1, none⟩ = some (.bool false) := by simp [World.cell?, hQ]
    have qf1 : w5.frozen? ⟨w.heap.size + 1 + 1, 1, none⟩ = false := by simp [World.frozen?, hQ]
    have q2 : w5.cell? ⟨w.heap.size + 1 + 1, 2, none⟩ = some (.int .i64 0) := by simp [World.cell?, hQ]
    have qf2 : w5.frozen? ⟨w.heap.size + 1 + 1, 2, none⟩ = false := by simp [World.frozen?, hQ]
    have q3 : w5.cell? ⟨w.heap.size + 1 + 1, 3, none⟩ = some (.int .u64 0) := by simp [World.cell?, hQ]
    have qf3 : w5.frozen? ⟨w.heap.size + 1 + 1, 3, none⟩ = false := by simp [World.frozen?, hQ]
    have q4 : w5.cell? ⟨w.heap.size + 1 + 1, 4, none⟩ = some (.slice none 0 0) := by simp [World.cell?, hQ]
    have qf4 : w5.frozen? ⟨w.heap.size + 1 + 1, 4, none⟩ = false := by simp [World.frozen?, hQ]
    have hPm : (setAll (w.heap.size + 1 + 1) 0 [.int .i64 0, .bool false, .int .i64 0, .int .u64 0, .slice none 0 0] (setAll (w.heap.size + 1) 0 [.int .i64 0, .int .i64 0, .int .u64 0, .int .u64 0, .slice none 0 0, .slice none 0 0] w5)).heap[w.heap.size + 1 + 1]? = some (.cells #[.int .i64 0, .bool false, .int .i64 0, .int .u64 0, .slice none 0 0] 37 (0, 0)) := setAll_all (vs := [.int .i64 0, .bool false, .int .i64 0, .int .u64 0, .slice none 0 0]) ((setAll_other (g := w.heap.size + 1) (by omega) [.int .i64 0, .int .i64 0, .int .u64 0, .int .u64 0, .slice none 0 0, .slice none 0 0] 0 w5).trans hQ) rfl
    have hEm : (setAll (w.heap.size + 1 + 1) 0 [.int .i64 0, .bool false, .int .i64 0, .int .u64 0, .slice none 0 0] (setAll (w.heap.size + 1) 0 [.int .i64 0, .int .i64 0, .int .u64 0, .int .u64 0, .slice none 0 0, .slice none 0 0] w5)).heap[w.heap.size + 1]? = some (.cells #[.int .i64 0, .int .i64 0, .int .u64 0, .int .u64 0, .slice none 0 0, .slice none 0 0] 33 (0, 0)) := (setAll_other (g := w.heap.size + 1 + 1) (by omega) [.int .i64 0, .bool false, .int .i64 0, .int .u64 0, .slice none 0 0] 0 (setAll (w.heap.size + 1) 0 [.int .i64 0, .int .i64 0, .int .u64 0, .int .u64 0, .slice none 0 0, .slice none 0 0] w5)).trans (setAll_all (vs := [.int .i64 0, .int .i64 0, .int .u64 0, .int .u64 0, .slice none 0 0, .slice none 0 0]) hA rfl)
    have hF : Ext w (setAll (w.heap.size + 1 + 1) 0 [.int .i64 0, .bool false, .int .i64 0, .int .u64 0, .slice none 0 0] (setAll (w.heap.size + 1) 0 [.int .i64 0, .int .i64 0, .int .u64 0, .int .u64 0, .slice none 0 0, .slice none 0 0] w5)) := setAll_ext (g := w.heap.size + 1 + 1) (setAll_ext (g := w.heap.size + 1) hW (by omega)) (by omega)
    simp only [setAll] at hPm hEm hF
    clear hA hQ hW
    go_wp2
    generalize (((((((((((w5.setCell ⟨w.heap.size + 1, 0, none⟩ (.int .i64 0)).setCell ⟨w.heap.size + 1, 1, none⟩ (.int .i64 0)).setCell ⟨w.heap.size + 1, 2, none⟩ (.int .u64 0)).setCell ⟨w.heap.size + 1, 3, none⟩ (.int .u64 0)).setCell ⟨w.heap.size + 1, 4, none⟩ (.slice none 0 0)).setCell ⟨w.heap.size + 1, 5, none⟩ (.slice none 0 0)).setCell ⟨w.heap.size + 1 + 1, 0, none⟩ (.int .i64 0)).setCell ⟨w.heap.size + 1 + 1, 1, none⟩ (.bool false)).setCell ⟨w.heap.size + 1 + 1, 2, none⟩ (.int .i64 0)).setCell ⟨w.heap.size + 1 + 1, 3, none⟩ (.int .u64 0)).setCell ⟨w.heap.size + 1 + 1, 4, none⟩ (.slice none 0 0)) = wf at *
    clear e0 e1 e2 e3 e4 e5 ef0 ef1 ef2 ef3 ef4 ef5 q0 q1 q2 q3 q4 qf0 qf1 qf2 qf3 qf4
    have e0 : wf.cell? ⟨w.heap.size + 1, 0, none⟩ = some (.int .i64 0) := by simp [World.cell?, hEm]
    have e1 : wf.cell? ⟨w.heap.size + 1, 1, none⟩ = some (.int .i64 0) := by simp [World.cell?, hEm]
    have e2 : wf.cell? ⟨w.heap.size + 1, 2, none⟩ = some (.int .u64 0) := by simp [World.cell?, hEm]
    have e3 : wf.cell? ⟨w.heap.size + 1, 3, none⟩ = some (.int .u64 0) := by simp [World.cell?, hEm]
    have e4 : wf.cell? ⟨w.heap.size + 1, 4, none⟩ = some (.slice none 0 0) := by simp [World.cell?, hEm]
    have e5 : wf.cell? ⟨w.heap.size + 1, 5, none⟩ = some (.slice none 0 0) := by simp [World.cell?, hEm]
    have q0 : wf.cell? ⟨w.heap.size + 1 + 1, 0, none⟩ = some (.int .i64 0) := by simp [World.cell?, hPm]
    have q1 : wf.cell? ⟨w.heap.size + 1 + 1, 1, none⟩ = some (.bool false) := by simp [World.cell?, hPm]
    have q2 : wf.cell? ⟨w.heap.size + 1 + 1, 2, none⟩ = some (.int .i64 0) := by simp [World.cell?, hPm]
    have q3 : wf.cell? ⟨w.heap.size + 1 + 1, 3, none⟩ = some (.int .u64 0) := by simp [World.cell?, hPm]
    have q4 : wf.cell? ⟨w.heap.size + 1 + 1, 4, none⟩ = some (.slice none 0 0) := by simp [World.cell?, hPm]
    refine bodyPost_ret (v := .tuple #[.agg #[.int .i64 0, .int .i64 0, .int .u64 0, .int .u64 0, .slice none 0 0, .slice none 0 0], .agg #[.int .i64 0, .bool false, .int .i64 0, .int .u64 0, .slice none 0 0], .bool true]) (by simp [results, Try.results18, go_sem, e0, e1, e2, e3, e4, e5, q0, q1, q2, q3, q4]) rfl ⟨by rw [HN.out, hE]; rfl, hF⟩
set_option maxRecDepth 100000 in
set_option maxHeartbeats 4000000 in
theorem rnext_no (t k u v d : Int) (ht1 : 0 ≤ t) (ht2 : t ≤ 64) (k1 : ¬ k = 1) (k2 : ¬ k = 2) (B : Option Addr) (n kc : Nat) (rs : List Res) (w : World) (hlog : LogV w B n kc rs) (hU : GoodR rs) :
    Calls Try.prog 18 #[.int .i64 t, .agg #[.int .i64 k, .int .i64 u, .int .i64 v, .int .u64 d], .slice B n kc] w fun e w' => e = (poolN t k u (rs.map Res.n)).fin ∧ Ext w w' := by
  obtain ⟨E, hE0⟩ : ∃ E, poolN t k u (rs.map Res.n) = E := ⟨_, rfl⟩
  have HN := Lib.hid hE0
  clear hE0
  have hmk : ∀ W : World, (Instr.build 142 #[(0, .slice B n kc)]).run Try.prog W = .ok (.agg #[.slice B n kc, .int .i64 0, .bool false, .int .i64 0, .int .i64 0, .int .u64 0, .int .u64 0, .slice none 0 0, .slice none 0 0]) W := fun _ => by kernel_rfl
  have hmo : ∀ W : World, (Instr.build 37 #[]).run Try.prog W = .ok (.agg #[.int .i64 0, .bool false, .int .i64 0, .int .u64 0, .slice none 0 0]) W := fun _ => by kernel_rfl
  have hsep : ∀ a, B = some a → 0 < n → a.block ≠ w.heap.size + 1 + 1 + 1 := fun a ha hk => by subst ha; have := hlog.low hk; omega
  go_enter Try.func18, Try.ntmps18
  go_upto_region 3 with (fail)
  obtain ⟨hW, hP, hA, hQ, hC, hO⟩ := boxes5n w (.cells #[.int .i64 k, .int .i64 u, .int .i64 v, .int .u64 d] 24) (.cells #[.int .i64 0, .int .i64 0, .int .u64 0, .int .u64 0, .slice none 0 0, .slice none 0 0] 33) (.cells #[.int .i64 0, .bool false, .int .i64 0, .int .u64 0, .slice none 0 0] 37) (.cells #[.slice B n kc, .int .i64 0, .bool false, .int .i64 0, .int .i64 0, .int .u64 0, .int .u64 0, .slice none 0 0, .slice none 0 0] 142) (.cells #[.int .i64 0, .bool false, .int .i64 0, .int .u64 0, .slice none 0 0] 37)
  generalize ((((w.alloc (.cells #[.int .i64 k, .int .i64 u, .int .i64 v, .int .u64 d] 24)).alloc (.cells #[.int .i64 0, .int .i64 0, .int .u64 0, .int .u64 0, .slice none 0 0, .slice none 0 0] 33)).alloc (.cells #[.int .i64 0, .bool false, .int .i64 0, .int .u64 0, .slice none 0 0] 37)).alloc (.cells #[.slice B n kc, .int .i64 0, .bool false, .int .i64 0, .int .i64 0, .int .u64 0, .int .u64 0, .slice none 0 0, .slice none 0 0] 142)).alloc (.cells #[.int .i64 0, .bool false, .int .i64 0, .int .u64 0, .slice none 0 0] 37) = W at *
  have hC : CurAt W (w.heap.size + 1 + 1 + 1) B n kc ⟨0, false, Acc.zero⟩ := hC
  have hL := hlog.ext hW
  have p0 : W.cell? ⟨w.heap.size, 0, none⟩ = some (.int .i64 k) := by simp [World.cell?, hP]
  have p1 : W.cell? ⟨w.heap.size, 1, none⟩ = some (.int .i64 u) := by simp [World.cell?, hP]
  have p2 : W.cell? ⟨w.heap.size, 2, none⟩ = some (.int .i64 v) := by simp [World.cell?, hP]
  have p3 : W.cell? ⟨w.heap.size, 3, none⟩ = some (.int .u64 d) := by simp [World.cell?, hP]
  have hE : E = .done ⟨1, false, 0, 0⟩ := by rw [← HN.out]; simp [poolN, k1, k2]
  have o0 : W.cell? ⟨w.heap.size + 1 + 1 + 1 + 1, 0, none⟩ = some (.int .i64 0) := by simp [World.cell?, hO]
  have of0 : W.frozen? ⟨w.heap.size + 1 + 1 + 1 + 1, 0, none⟩ = false := by simp [World.frozen?, hO]
  have o1 : W.cell? ⟨w.heap.size + 1 + 1 + 1 + 1, 1, none⟩ = some (.bool false) := by simp [World.cell?, hO]
  have of1 : W.frozen? ⟨w.heap.size + 1 + 1 + 1 + 1, 1, none⟩ = false := by simp [World.frozen?, hO]
  have o2 : W.cell? ⟨w.heap.size + 1 + 1 + 1 + 1, 2, none⟩ = some (.int .i64 0) := by simp [World.cell?, hO]
  have of2 : W.frozen? ⟨w.heap.size + 1 + 1 + 1 + 1, 2, none⟩ = false := by simp [World.frozen?, hO]
  have o3 : W.cell? ⟨w.heap.size + 1 + 1 + 1 + 1, 3, none⟩ = some (.int .u64 0) := by simp [World.cell?, hO]
  have of3 : W.frozen? ⟨w.heap.size + 1 + 1 + 1 + 1, 3, none⟩ = false := by simp [World.frozen?, hO]
  have o4 : W.cell? ⟨w.heap.size + 1 + 1 + 1 + 1, 4, none⟩ = some (.slice none 0 0) := by simp [World.cell?, hO]
  have of4 : W.frozen? ⟨w.heap.size + 1 + 1 + 1 + 1, 4, none⟩ = false := by simp [World.frozen?, hO]
  go_upto_region 9 with (fail)
  have hO2 : (W.setCell ⟨w.heap.size + 1 + 1 + 1 + 1, 0, none⟩ (.int .i64 1)).heap[w.heap.size + 1 + 1 + 1 + 1]? = some (.cells #[.int .i64 1, .bool false, .int .i64 0, .int .u64 0, .slice none 0 0] 37 (0, 0)) := heap_setCell_at hO
  have hC2 : CurAt (W.setCell ⟨w.heap.size + 1 + 1 + 1 + 1, 0, none⟩ (.int .i64 1)) (w.heap.size + 1 + 1 + 1) B n kc _ := (Below.heap_setCell _ _ _ _ (by simp)).trans hC
  have hA2 : (W.setCell ⟨w.heap.size + 1 + 1 + 1 + 1, 0, none⟩ (.int .i64 1)).heap[w.heap.size + 1]? = _ := (Below.heap_setCell _ _ _ _ (by simp <;> omega)).trans hA
  have hQ2 : (W.setCell ⟨w.heap.size + 1 + 1 + 1 + 1, 0, none⟩ (.int .i64 1)).heap[w.heap.size + 1 + 1]? = _ := (Below.heap_setCell _ _ _ _ (by simp <;> omega)).trans hQ
  have hW2 : Ext w (W.setCell ⟨w.heap.size + 1 + 1 + 1 + 1, 0, none⟩ (.int .i64 1)) := hW.setCell (by simp; omega) _
  clear o0 o1 o2 o3 o4 of0 of1 of2 of3 of4 p0 p1 p2 p3 hP hO hC hA hQ hW hL
  generalize W.setCell ⟨w.heap.size + 1 + 1 + 1 + 1, 0, none⟩ (.int .i64 1) = w2 at *
  have hC := hC2
  have hO := hO2
  have hA := hA2
  have hQ := hQ2
  have hW := hW2
  clear hC2 hO2 hA2 hQ2 hW2
  have hL := hlog
  have o0 : w2.cell? ⟨w.heap.size + 1 + 1 + 1 + 1, 0, none⟩ = some (.int .i64 1) := by simp [World.cell?, hO]
  have o1 : w2.cell? ⟨w.heap.size + 1 + 1 + 1 + 1, 1, none⟩ = some (.bool false) := by simp [World.cell?, hO]
  have o2 : w2.cell? ⟨w.heap.size + 1 + 1 + 1 + 1, 2, none⟩ = some (.int .i64 0) := by simp [World.cell?, hO]
  have o3 : w2.cell? ⟨w.heap.size + 1 + 1 + 1 + 1, 3, none⟩ = some (.int .u64 0) := by simp [World.cell?, hO]
  have o4 : w2.cell? ⟨w.heap.size + 1 + 1 + 1 + 1, 4, none⟩ = some (.slice none 0 0) := by simp [World.cell?, hO]
  go_wp2_with fail
  refine (told_any (w.heap.size + 1 + 1 + 1) B n kc ⟨0, false, Acc.zero⟩ ⟨1, false, 0, 0⟩ _ hC).mono ?_
  rintro e w5 ⟨rfl, hx5⟩
  clear o0 o1 o2 o3 o4
  replace hA := heap_ext hA hx5
  replace hQ := heap_ext hQ hx5
  replace hW := hW.trans hx5
  clear hx5 hO hC hL hlog hsep
  simp only [Bool.false_eq_true, if_false, Acc.cells, Acc.zero, OutN.cells, Bool.not_false]
  have e0 : w5.cell? ⟨w.heap.size + 1, 0, none⟩ = some (.int .i64 0) := by simp [World.cell?, hA]
  have ef0 : w5.frozen? ⟨w.heap.size + 1, 0, none⟩ = false := by simp [World.frozen?, hA]
  have e1 : w5.cell? ⟨w.heap.size + 1, 1, none⟩ = some (.int .i64 0) := by simp [World.cell?, hA]
  have ef1 : w5.frozen? ⟨w.heap.size + 1, 1, none⟩ = false := by simp [World.frozen?, hA]
  have e2 : w5.cell? ⟨w.heap.size + 1, 2, none⟩ = some (.int .u64 0) := by simp [World.cell?, hA]
  have ef2 : w5.frozen? ⟨w.heap.size + 1, 2, none⟩ = false := by simp [World.frozen?, hA]
  have e3 : w5.cell? ⟨w.heap.size + 1, 3, none⟩ = some (.int .u64 0) := by simp [World.cell?, hA]
  have ef3 : w5.frozen? ⟨w.heap.size + 1, 3, none⟩ = false := by simp [World.frozen?, hA]
  have e4 : w5.cell? ⟨w.heap.size + 1, 4, none⟩ = some (.slice none 0 0) := by simp [World.cell?, hA]
  have ef4 : w5.frozen? ⟨w.heap.size + 1, 4, none⟩ = false := by simp [World.frozen?, hA]
  have e5 : w5.cell? ⟨w.heap.size + 1, 5, none⟩ = some (.slice none 0 0) := by simp [World.cell?, hA]
  have ef5 : w5.frozen? ⟨w.heap.size + 1, 5, none⟩ = false := by simp [World.frozen?, hA]
  have q0 : w5.cell? ⟨w.heap.size + 1 + 1, 0, none⟩ = some (.int .i64 0) := by simp [World.cell?, hQ]
  have qf0 : w5.frozen? ⟨w.heap.size + 1 + 1, 0, none⟩ = false := by simp [World.frozen?, hQ]
  have q1 : w5.cell? ⟨w.heap.size + 1 + 1, 1, none⟩ = some (.bool false) := by simp [World.cell?, hQ]
  have qf1 : w5.frozen? ⟨w.heap.size + 1 + 1, 1, none⟩ = false := by simp [World.frozen?, hQ]
  have q2 : w5.cell? ⟨w.heap.size + 1 + 1, 2, none⟩ = some (.int .i64 0) := by simp [World.cell?, hQ]
  have qf2 : w5.frozen? ⟨w.heap.size + 1 + 1, 2, none⟩ = false := by simp [World.frozen?, hQ]
  have q3 : w5.cell? ⟨w.heap.size + 1 + 1, 3, none⟩ = some (.int .u64 0) := by simp [World.cell?, hQ]
  have qf3 : w5.frozen? ⟨w.heap.size + 1 + 1, 3, none⟩ = false := by simp [World.frozen?, hQ]
  have q4 : w5.cell? ⟨w.heap.size + 1 + 1, 4, none⟩ = some (.slice none 0 0) := by simp [World.cell?, hQ]
  have qf4 : w5.frozen? ⟨w.heap.size + 1 + 1, 4, none⟩ = false := by simp [World.frozen?, hQ]
  have hPm : (setAll (w.heap.size + 1 + 1) 0 [.int .i64 1, .bool false, .int .i64 0, .int .u64 0, .slice none 0 0] (setAll (w.heap.size + 1) 0 [.int .i64 0, .int .i64 0, .int .u64 0, .int .u64 0, .slice none 0 0, .slice none 0 0] w5)).heap[w.heap.size + 1 + 1]? = some (.cells #[.int .i64 1, .bool false, .int .i64 0, .int .u64 0, .slice none 0 0] 37 (0, 0)) := setAll_all (vs := [.int .i64 1, .bool false, .int .i64 0, .int .u64 0, .slice none 0 0]) ((setAll_other (g := w.heap.size + 1) (by omega) [.int .i64 0, .int .i64 0, .int .u64 0, .int .u64 0, .slice none 0 0, .slice none 0 0] 0 w5).trans hQ) rfl
  have hEm : (setAll (w.heap.size + 1 + 1) 0 [.int .i64 1, .bool false, .int .i64 0, .int .u64 0, .slice none 0 0] (setAll (w.heap.size + 1) 0 [.int .i64 0, .int .i64 0, .int .u64 0, .int .u64 0, .slice none 0 0, .slice none 0 0] w5)).heap[w.heap.size + 1]? = some (.cells #[.int .i64 0, .int .i64 0, .int .u64 0, .int .u64 0, .slice none 0 0, .slice none 0 0] 33 (0, 0)) := (setAll_other (g := w.heap.size + 1 + 1) (by omega) [.int .i64 1, .bool false, .int .i64 0, .int .u64 0, .slice none 0 0] 0 (setAll (w.heap.size + 1) 0 [.int .i64 0, .int .i64 0, .int .u64 0, .int .u64 0, .slice none 0 0, .slice none 0 0] w5)).trans (setAll_all (vs := [.int .i64 0, .int .i64 0, .int .u64 0, .int .u64 0, .slice none 0 0, .slice none 0 0]) hA rfl)
  have hF : Ext w (setAll (w.heap.size + 1 + 1) 0 [.int .i64 1, .bool false, .int .i64 0, .int .u64 0, .slice none 0 0] (setAll (w.heap.size + 1) 0 [.int .i64 0, .int .i64 0, .int .u64 0, .int .u64 0, .slice none 0 0, .slice none 0 0] w5)) := setAll_ext (g := w.heap.size + 1 + 1) (setAll_ext (g := w.heap.size + 1) hW (by omega)) (by omega)
  simp only [setAll] at hPm hEm hF
  clear hA hQ hW
  go_wp2
  generalize (((((((((((w5.setCell ⟨w.heap.size + 1, 0, none⟩ (.int .i64 0)).setCell ⟨w.heap.size + 1, 1, none⟩ (.int .i64 0)).setCell ⟨w.heap.size + 1, 2, none⟩ (.int .u64 0)).setCell ⟨w.heap.size + 1, 3, none⟩ (.int .u64 0)).setCell ⟨w.heap.size + 1, 4, none⟩ (.slice none 0 0)).setCell ⟨w.heap.size + 1, 5, none⟩ (.slice none 0 0)).setCell ⟨w.heap.size + 1 + 1, 0, none⟩ (.int .i64 1)).setCell ⟨w.heap.size + 1 + 1, 1, none⟩ (.bool false)).setCell ⟨w.heap.size + 1 + 1, 2, none⟩ (.int .i64 0)).setCell ⟨w.heap.size + 1 + 1, 3, none⟩ (.int .u64 0)).setCell ⟨w.heap.size + 1 + 1, 4, none⟩ (.slice none 0 0)) = wf at *
  clear e0 e1 e2 e3 e4 e5 ef0 ef1 ef2 ef3 ef4 ef5 q0 q1 q2 q3 q4 qf0 qf1 qf2 qf3 qf4
  have e0 : wf.cell? ⟨w.heap.size + 1, 0, none⟩ = some (.int .i64 0) := by simp [World.cell?, hEm]
  have e1 : wf.cell? ⟨w.heap.size + 1, 1, none⟩ = some (.int .i64 0) := by simp [World.cell?, hEm]
  have e2 : wf.cell? ⟨w.heap.size + 1, 2, none⟩ = some (.int .u64 0) := by simp [World.cell?, hEm]
  have e3 : wf.cell? ⟨w.heap.size + 1, 3, none⟩ = some (.int .u64 0) := by simp [World.cell?, hEm]
  have e4 : wf.cell? ⟨w.heap.size + 1, 4, none⟩ = some (.slice none 0 0) := by simp [World.cell?, hEm]
  have e5 : wf.cell? ⟨w.heap.size + 1, 5, none⟩ = some (.slice none 0 0) := by simp [World.cell?, hEm]
  have q0 : wf.cell? ⟨w.heap.size + 1 + 1, 0, none⟩ = some (.int .i64 1) := by simp [World.cell?, hPm]
  have q1 : wf.cell? ⟨w.heap.size + 1 + 1, 1, none⟩ = some (.bool false) := by simp [World.cell?, hPm]
  have q2 : wf.cell? ⟨w.heap.size + 1 + 1, 2, none⟩ = some (.int .i64 0) := by simp [World.cell?, hPm]
  have q3 : wf.cell? ⟨w.heap.size + 1 + 1, 3, none⟩ = some (.int .u64 0) := by simp [World.cell?, hPm]
  have q4 : wf.cell? ⟨w.heap.size + 1 + 1, 4, none⟩ = some (.slice none 0 0) := by simp [World.cell?, hPm]
  refine bodyPost_ret (v := .tuple #[.agg #[.int .i64 0, .int .i64 0, .int .u64 0, .int .u64 0, .slice none 0 0, .slice none 0 0], .agg #[.int .i64 1, .bool false, .int .i64 0, .int .u64 0, .slice none 0 0], .bool true]) (by simp [results, Try.results18, go_sem, e0, e1, e2, e3, e4, e5, q0, q1, q2, q3, q4]) rfl ⟨by rw [HN.out, hE]; rfl, hF⟩
theorem rpnext_any (t k u v d : Int) (ht1 : 0 ≤ t) (ht2 : t ≤ 64) (hu : k = 2 → 0 ≤ u ∧ u < 1048576) (B : Option Addr) (n kc : Nat) (rs : List Res) (w : World) (hlog : LogV w B n kc rs) (hU : GoodR rs) :
    Calls Try.prog 18 #[.int .i64 t, .agg #[.int .i64 k, .int .i64 u, .int .i64 v, .int .u64 d], .slice B n kc] w fun e w' => e = (poolN t k u (rs.map Res.n)).fin ∧ Ext w w' := by
  by_cases k1 : k = 1
  · subst k1; exact rnext_pop t u v d ht1 ht2 B n kc rs w hlog hU
  by_cases k2 : k = 2
  · subst k2; exact rnext_push t u v d ht1 ht2 (hu rfl).1 (hu rfl).2 B n kc rs w hlog hU
  exact rnext_no t k u v d ht1 ht2 k1 k2 B n kc rs w hlog hU
end Go.Proofs.Ytkdjmfaodojmfaa

namespace Go.Proofs.Ytkdjmfaodojmfaa
open Go.ChangeShapes Go.WideShapes Go.ChangeAt Go.RowKit

/-! Rows of accesses, and logs, that came in. -/
theorem cellsAccess : Try.prog.cellsOf 33 = 6 := by kernel_rfl
theorem cellsResult : Try.prog.cellsOf 130 = 3 := by kernel_rfl
/-- a log that came in, however long -/
structure LogP (w : World) (A : Option Addr) (n c : Nat) (rs : List Res) : Prop where
  len : rs.length = n
  cap : n ≤ maxLen
  le : n ≤ c
  nil : A = none → c = 0
  at_ : ∀ j r, rs[j]? = some r → ∃ a, A = some a ∧ ResAt w a j r
theorem LogP.log {w : World} {A : Option Addr} {n c : Nat} {rs : List Res} (h : LogP w A n c rs) (hn : n ≤ 65536) : LogV w A n c rs := ⟨h.len, hn, h.at_⟩
/-- a row of accesses that came in -/
structure AccsP (w : World) (A : Option Addr) (n c : Nat) (l : List Acc) : Prop where
  accs : AccsV w A n c l
  cap : n ≤ maxLen
  le : n ≤ c
  nil : A = none → c = 0
  ok : ∀ (j : Nat) (x : Acc), l[j]? = some x → AccOK w x ∧ x.dk ≤ maxLen ∧ x.wk ≤ maxLen
section
variable {H : Type} {enc : TypeId × Value → H} {w : World} {base : Nat}
set_option maxRecDepth 100000 in
theorem open_acc {fuel : Nat} {cs : List Value} {x : DataW H × List MemPlace} (hl : cs.length = 6) (h : DataW.trod enc Try.prog w base (fun _ => true) true fuel 33 cs = some x) :
    ∃ a : Acc, cs = a.cells.toList ∧ AccOK w a ∧ a.dk ≤ maxLen ∧ a.wk ≤ maxLen := by
  obtain ⟨x0, x1, x2, x3, x4, x5, rfl⟩ := list_six hl
  obtain ⟨k, hg⟩ := open_inner Try.underlying33 h
  obtain ⟨_, s0⟩ := hg 0 _ rfl
  obtain ⟨_, s1⟩ := hg 1 _ rfl
  obtain ⟨_, s2⟩ := hg 2 _ rfl
  obtain ⟨_, s3⟩ := hg 3 _ rfl
  obtain ⟨_, s4⟩ := hg 4 _ rfl
  obtain ⟨_, s5⟩ := hg 5 _ rfl
  obtain ⟨i0, e0, _, w0⟩ := DataW.trod_int Try.underlying3 s0
  obtain ⟨i1, e1, _, w1⟩ := DataW.trod_int Try.underlying3 s1
  obtain ⟨i2, e2, _, w2⟩ := DataW.trod_int Try.underlying22 s2
  obtain ⟨i3, e3, _, w3⟩ := DataW.trod_int Try.underlying22 s3
  obtain ⟨D, dk, dc, d, e4, hD⟩ := open_bytes s4
  obtain ⟨A, wk, wc, ws, e5, hA⟩ := open_words s5
  simp [cellsBytes, cellsIntS, cellsU64S, cellsWordsS] at e0 e1 e2 e3 e4 e5
  subst e0 e1 e2 e3 e4 e5
  exact ⟨⟨i0, i1, i2, i3, D, dk, dc, A, wk, wc⟩, rfl, ⟨⟨d, hD⟩, ⟨ws, hA⟩⟩, Nat.le_trans hD.le hD.cap, Nat.le_trans hA.le hA.cap⟩
set_option maxRecDepth 100000 in
theorem open_res {fuel : Nat} {cs : List Value} {x : DataW H × List MemPlace} (hl : cs.length = 3) (h : DataW.trod enc Try.prog w base (fun _ => true) true fuel 130 cs = some x) :
    ∃ r : Res, cs = [.int .u64 r.n, .slice r.A r.k r.c, .bool r.fail] := by
  obtain ⟨x0, x1, x2, rfl⟩ := list_three hl
  obtain ⟨k, hg⟩ := open_inner Try.underlying130 h
  obtain ⟨_, s0⟩ := hg 0 _ rfl
  obtain ⟨_, s1⟩ := hg 1 _ rfl
  obtain ⟨_, s2⟩ := hg 2 _ rfl
  obtain ⟨i0, e0, _, w0⟩ := DataW.trod_int Try.underlying22 s0
  obtain ⟨D, dk, dc, d, e1, hD⟩ := open_bytes s1
  obtain ⟨b, e2, _⟩ := DataW.trod_bool Try.underlying4 s2
  simp [cellsBytes, cellsU64S, cellsBoolS] at e0 e1 e2
  subst e0 e1 e2
  exact ⟨⟨i0, D, dk, dc, b⟩, rfl⟩
set_option maxRecDepth 100000 in
theorem open_accs {b0 : Nat} {v : Value} {d : DataW H} {p : List MemPlace} (hv : Value.okWide Try.prog w .any b0 79 v) (h : DataW.Trod enc Try.prog w base (fun _ => true) true 79 v d p) :
    ∃ A n c l, v = .slice A n c ∧ AccsP w A n c l := by
  obtain ⟨A0, n0, c0, rfl⟩ := okWide_slice Try.underlying79 hv
  obtain ⟨fuel, hf⟩ := h
  obtain ⟨A, n, c, m, e, hn, hc, hA, hi⟩ := open_slice Try.underlying79 hf
  simp [Value.cells] at e
  obtain ⟨rfl, rfl, rfl⟩ := e
  rw [cellsAccess] at hi
  obtain ⟨l, hl, hp⟩ := list_choose (n := n0) (p := fun i x => (∃ a, A0 = some a ∧ ∀ k v, x.cells[k]? = some v → w.cell? ((a.add (i * 6)).add k) = some v) ∧ AccOK w x ∧ x.dk ≤ maxLen ∧ x.wk ≤ maxLen) (fun i hlt => by
    obtain ⟨a, l, y, ha, hlen, hcell, ht⟩ := hi i hlt
    obtain ⟨x, e, hok⟩ := open_acc hlen ht
    refine ⟨x, ⟨a, ha, fun k v hk => ?_⟩, hok⟩
    rw [addr_add_add]
    refine hcell k v ?_
    rw [e]
    simpa using hk)
  exact ⟨A0, n0, c0, l, rfl, ⟨hl, fun j x hj => (hp j x hj).1⟩, Nat.le_trans hn hc, hn, hA, fun j x hj => (hp j x hj).2⟩
set_option maxRecDepth 100000 in
theorem open_log {b0 : Nat} {v : Value} {d : DataW H} {p : List MemPlace} (hv : Value.okWide Try.prog w .any b0 25 v) (h : DataW.Trod enc Try.prog w base (fun _ => true) true 25 v d p) :
    ∃ A n c rs, v = .slice A n c ∧ LogP w A n c rs := by
  obtain ⟨A0, n0, c0, rfl⟩ := okWide_slice Try.underlying25 hv
  obtain ⟨fuel, hf⟩ := h
  obtain ⟨A, n, c, m, e, hn, hc, hA, hi⟩ := open_slice Try.underlying25 hf
  simp [Value.cells] at e
  obtain ⟨rfl, rfl, rfl⟩ := e
  rw [cellsResult] at hi
  obtain ⟨l, hl, hp⟩ := list_choose (n := n0) (p := fun i r => ∃ a, A0 = some a ∧ ResAt w a i r) (fun i hlt => by
    obtain ⟨a, l, y, ha, hlen, hcell, ht⟩ := hi i hlt
    obtain ⟨r, e⟩ := open_res hlen ht
    subst e
    refine ⟨r, a, ha, ?_, ?_, ?_⟩
    · simpa using hcell 0 _ rfl
    · rw [addr_add_add]; exact hcell 1 _ rfl
    · rw [addr_add_add]; exact hcell 2 _ rfl)
  exact ⟨A0, n0, c0, l, rfl, hl, Nat.le_trans hn hc, hn, hA, hp⟩
end
end Go.Proofs.Ytkdjmfaodojmfaa

namespace Go.Proofs.Ytkdjmfaodojmfaa
open Go.ChangeShapes Go.WideShapes Go.ChangeAt Go.RowKit

/-! What came in for PoolNext, EpochNext. -/
section
variable {H : Type} {enc : TypeId × Value → H} {w : World} {base : Nat}
set_option maxRecDepth 100000 in
theorem open_resU {fuel : Nat} {cs : List Value} {x : DataW H × List MemPlace} (hl : cs.length = 3) (h : DataW.trod enc Try.prog w base (fun _ => true) true fuel 130 cs = some x) :
    ∃ r : Res, cs = [.int .u64 r.n, .slice r.A r.k r.c, .bool r.fail] ∧ U64 r.n := by
  obtain ⟨x0, x1, x2, rfl⟩ := list_three hl
  obtain ⟨k, hg⟩ := open_inner Try.underlying130 h
  obtain ⟨_, s0⟩ := hg 0 _ rfl
  obtain ⟨_, s1⟩ := hg 1 _ rfl
  obtain ⟨_, s2⟩ := hg 2 _ rfl
  obtain ⟨i0, e0, _, w0⟩ := DataW.trod_int Try.underlying22 s0
  obtain ⟨D, dk, dc, d, e1, hD⟩ := open_bytes s1
  obtain ⟨b, e2, _⟩ := DataW.trod_bool Try.underlying4 s2
  simp [cellsBytes, cellsU64S, cellsBoolS] at e0 e1 e2
  subst e0 e1 e2
  exact ⟨⟨i0, D, dk, dc, b⟩, rfl, wf_u64 w0⟩
set_option maxRecDepth 100000 in
theorem open_op {fuel : Nat} {cs : List Value} {x : DataW H × List MemPlace} (hl : cs.length = 4) (h : DataW.trod enc Try.prog w base (fun _ => true) true fuel 24 cs = some x) :
    ∃ k u v d : Int, cs = [.int .i64 k, .int .i64 u, .int .i64 v, .int .u64 d] := by
  match cs, hl with
  | [x0, x1, x2, x3], _ =>
  obtain ⟨k, hg⟩ := open_inner Try.underlying24 h
  obtain ⟨_, s0⟩ := hg 0 _ rfl
  obtain ⟨_, s1⟩ := hg 1 _ rfl
  obtain ⟨_, s2⟩ := hg 2 _ rfl
  obtain ⟨_, s3⟩ := hg 3 _ rfl
  obtain ⟨i0, e0, _, w0⟩ := DataW.trod_int Try.underlying3 s0
  obtain ⟨i1, e1, _, w1⟩ := DataW.trod_int Try.underlying3 s1
  obtain ⟨i2, e2, _, w2⟩ := DataW.trod_int Try.underlying3 s2
  obtain ⟨i3, e3, _, w3⟩ := DataW.trod_int Try.underlying22 s3
  simp [cellsIntS, cellsU64S] at e0 e1 e2 e3
  subst e0 e1 e2 e3
  exact ⟨i0, i1, i2, i3, rfl⟩
set_option maxRecDepth 100000 in
theorem open_logU {fuel : Nat} {cs : List Value} {x : DataW H × List MemPlace} (hf : DataW.trod enc Try.prog w base (fun _ => true) true fuel 25 cs = some x) :
    ∃ A n c rs, cs = [.slice A n c] ∧ LogP w A n c rs ∧ GoodR rs := by
  obtain ⟨A, n, c, m, e, hn, hc, hA, hi⟩ := open_slice Try.underlying25 hf
  rw [cellsResult] at hi
  obtain ⟨l, hl, hp⟩ := list_choose (n := n) (p := fun i r => (∃ a, A = some a ∧ ResAt w a i r) ∧ U64 r.n) (fun i hlt => by
    obtain ⟨a, l, y, ha, hlen, hcell, ht⟩ := hi i hlt
    obtain ⟨r, e, hu⟩ := open_resU hlen ht
    subst e
    refine ⟨r, ⟨a, ha, ?_, ?_, ?_⟩, hu⟩
    · simpa using hcell 0 _ rfl
    · rw [addr_add_add]; exact hcell 1 _ rfl
    · rw [addr_add_add]; exact hcell 2 _ rfl)
  refine ⟨A, n, c, l, e, ⟨hl, Nat.le_trans hn hc, hn, hA, fun j r hj => (hp j r hj).1⟩, fun r hr => ?_⟩
  obtain ⟨j, hj⟩ := List.getElem?_of_mem hr
  exact (hp j r hj).2
end
set_option maxRecDepth 100000 in
theorem dims_any (t c : Int) (w : World) : Calls Try.prog 16 #[.int .i64 t, .int .i64 c] w fun e w' => e = .returned (.bool (mayB t c)) ∧ w = w' := by
  rcases (Decidable.em (1 ≤ t)) with h1 | h1 <;> rcases (Decidable.em (t ≤ 64)) with h2 | h2 <;> rcases (Decidable.em (0 ≤ c)) with h3 | h3 <;> rcases (Decidable.em (c ≤ 65536)) with h4 | h4 <;>
  (go_enter Try.func16, Try.ntmps16
   go_wp2
   go_ret
   exact ⟨by simp [mayB, h1, h2, h3, h4], rfl⟩)
/-- what is asked next, or answered, in letters -/
theorem next_form {P : List Int → NextE} {ns : List Int} (hP : ∀ x, P ns = .stop x → ∃ a : Ask, x = a.acc ∧ a.Ok) : ∃ (a0 a1 a2 a3 o0 : Int) (o1 : Bool) (o2 o3 : Int) (b : Bool), (P ns).fin = .returned (.tuple #[.agg #[.int .i64 a0, .int .i64 a1, .int .u64 a2, .int .u64 a3, .slice none 0 0, .slice none 0 0], .agg #[.int .i64 o0, .bool o1, .int .i64 o2, .int .u64 o3, .slice none 0 0], .bool b]) := by
  cases h : P ns with
  | done o => exact ⟨0, 0, 0, 0, o.err, o.is, o.n, o.w, true, rfl⟩
  | stop x =>
    obtain ⟨a, rfl, -⟩ := hP x h
    exact ⟨a.kind, a.cell, a.a, a.b, 0, false, 0, 0, false, rfl⟩
theorem accok_none (w : World) (x0 x1 x2 x3 : Int) : AccOK w ⟨x0, x1, x2, x3, none, 0, 0, none, 0, 0⟩ := ⟨⟨[], bytes_nil w⟩, ⟨[], words_nil w⟩⟩
end Go.Proofs.Ytkdjmfaodojmfaa
