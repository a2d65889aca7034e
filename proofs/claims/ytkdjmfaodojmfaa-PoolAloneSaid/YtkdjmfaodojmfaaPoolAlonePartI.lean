import Derived.Test.YtkdjmfaodojmfaaPoolAlonePartH
import Derived.Lib.Hide
import Derived.Test.YtkdjmfaodojmfaaPoolAlonePartF
import Derived.Test.YtkdjmfaodojmfaaPoolAlonePartG
import Derived.Test.YtkdjmfaodojmfaaPoolAlonePartA
import Derived.LoopTactic
namespace Go.Proofs.Ytkdjmfaodojmfaa
open Go.RowKit

/-! wealdref11.Cur: Load, Store, Cas. -/
theorem LogV.cur {w w' : World} {g : Nat} {A : Option Addr} {n c : Nat} {rs : List Res} (h : LogV w A n c rs) (hx : ExtB g w w') (hsep : ∀ a, A = some a → 0 < n → a.block ≠ g) : LogV w' A n c rs :=
  ⟨h.len, h.small, fun j r hr => let ⟨a, ha, h1⟩ := h.at_ j r hr; ⟨a, ha, h1.extB hx (hsep a ha (by have := (List.getElem?_eq_some_iff.1 hr).1; have := h.len; omega))⟩⟩
theorem CurAt.ext {w w' : World} {g : Nat} {A : Option Addr} {n c : Nat} {s : Cu} (h : CurAt w g A n c s) (hx : Ext w w') : CurAt w' g A n c s := heap_ext h hx
set_option maxRecDepth 100000 in
theorem cload_any (i : Int) (g : Nat) (A : Option Addr) (n c : Nat) (s : Cu) (rs : List Res) (w : World) (hlog : LogV w A n c rs) (hsep : ∀ a, A = some a → 0 < n → a.block ≠ g) (hcur : CurAt w g A n c s) :
    Calls Try.prog 137 #[.pointer (some ⟨g, 0, none⟩), .int .i64 i] w fun e w' => e = .returned (.int .u64 (s.told rs).n) ∧ CurAt w' g A n c (s.next rs (accL i)) ∧ ExtB g w w' := by
  have hb : ∀ (W : World) (x y : Int), (Instr.build 33 #[(0, .int .i64 x), (1, .int .i64 y)]).run Try.prog W = .ok (.agg #[.int .i64 x, .int .i64 y, .int .u64 0, .int .u64 0, .slice none 0 0, .slice none 0 0]) W := fun _ _ _ => by kernel_rfl
  go_enter Try.func137, Try.ntmps137
  go_wp2_with fail
  refine (rdo_any (accL i) g A n c s rs w hlog hsep hcur).mono ?_
  rintro e w1 ⟨rfl, hC, hx⟩
  obtain ⟨rn, rA, rk, rc, rf, hr⟩ : ∃ rn rA rk rc rf, s.told rs = ⟨rn, rA, rk, rc, rf⟩ := ⟨_, _, _, _, _, rfl⟩
  rw [hr]
  simp only
  have HR := Lib.hid hr
  clear hr
  go_upto_region 2 with (fail)
  have hx1 : Ext w1 (w1.alloc (.cells #[.int .u64 rn, .slice rA rk rc, .bool rf] 130)) := (Below.refl _ w1).alloc (Nat.le_refl _) _
  have hR := heap_alloc_new w1 (.cells #[.int .u64 rn, .slice rA rk rc, .bool rf] 130)
  generalize w1.alloc (.cells #[.int .u64 rn, .slice rA rk rc, .bool rf] 130) = w2 at *
  generalize w1.heap.size = gr at *
  have c0 : w2.cell? ⟨gr, 0, none⟩ = some (.int .u64 rn) := by simp [World.cell?, hR]
  go_wp2
  go_ret
  exact ⟨by rw [HR.out]; rfl, hC.ext hx1, hx.trans (.of hx1)⟩
set_option maxRecDepth 100000 in
theorem ccas_any (i a b : Int) (g : Nat) (A : Option Addr) (n c : Nat) (s : Cu) (rs : List Res) (w : World) (hlog : LogV w A n c rs) (hsep : ∀ a, A = some a → 0 < n → a.block ≠ g) (hcur : CurAt w g A n c s) :
    Calls Try.prog 138 #[.pointer (some ⟨g, 0, none⟩), .int .i64 i, .int .u64 a, .int .u64 b] w fun e w' => e = .returned (.bool ((s.told rs).n == 1)) ∧ CurAt w' g A n c (s.next rs (accC i a b)) ∧ ExtB g w w' := by
  have hb : ∀ (W : World) (x y z u : Int), (Instr.build 33 #[(0, .int .i64 x), (1, .int .i64 y), (2, .int .u64 z), (3, .int .u64 u)]).run Try.prog W = .ok (.agg #[.int .i64 x, .int .i64 y, .int .u64 z, .int .u64 u, .slice none 0 0, .slice none 0 0]) W := fun _ _ _ _ _ => by kernel_rfl
  go_enter Try.func138, Try.ntmps138
  go_wp2_with fail
  refine (rdo_any (accC i a b) g A n c s rs w hlog hsep hcur).mono ?_
  rintro e w1 ⟨rfl, hC, hx⟩
  obtain ⟨rn, rA, rk, rc, rf, hr⟩ : ∃ rn rA rk rc rf, s.told rs = ⟨rn, rA, rk, rc, rf⟩ := ⟨_, _, _, _, _, rfl⟩
  rw [hr]
  simp only
  have HR := Lib.hid hr
  clear hr
  go_upto_region 2 with (fail)
  have hx1 : Ext w1 (w1.alloc (.cells #[.int .u64 rn, .slice rA rk rc, .bool rf] 130)) := (Below.refl _ w1).alloc (Nat.le_refl _) _
  have hR := heap_alloc_new w1 (.cells #[.int .u64 rn, .slice rA rk rc, .bool rf] 130)
  generalize w1.alloc (.cells #[.int .u64 rn, .slice rA rk rc, .bool rf] 130) = w2 at *
  generalize w1.heap.size = gr at *
  have c0 : w2.cell? ⟨gr, 0, none⟩ = some (.int .u64 rn) := by simp [World.cell?, hR]
  go_wp2
  go_ret
  exact ⟨by rw [HR.out]; rfl, hC.ext hx1, hx.trans (.of hx1)⟩
set_option maxRecDepth 100000 in
theorem cstore_any (i a : Int) (g : Nat) (A : Option Addr) (n c : Nat) (s : Cu) (rs : List Res) (w : World) (hlog : LogV w A n c rs) (hsep : ∀ a, A = some a → 0 < n → a.block ≠ g) (hcur : CurAt w g A n c s) :
    Calls Try.prog 139 #[.pointer (some ⟨g, 0, none⟩), .int .i64 i, .int .u64 a] w fun e w' => e = .returned (.tuple #[]) ∧ CurAt w' g A n c (s.next rs (accS i a)) ∧ ExtB g w w' := by
  have hb : ∀ (W : World) (x y z : Int), (Instr.build 33 #[(0, .int .i64 x), (1, .int .i64 y), (2, .int .u64 z)]).run Try.prog W = .ok (.agg #[.int .i64 x, .int .i64 y, .int .u64 z, .int .u64 0, .slice none 0 0, .slice none 0 0]) W := fun _ _ _ _ => by kernel_rfl
  go_enter Try.func139, Try.ntmps139
  go_wp2_with fail
  refine (rdo_any (accS i a) g A n c s rs w hlog hsep hcur).mono ?_
  rintro e w1 ⟨rfl, hC, hx⟩
  go_wp2
  refine bodyPost_end (v := .tuple #[]) (by simp [results, Try.results139, go_sem]) rfl ⟨rfl, hC, hx⟩
end Go.Proofs.Ytkdjmfaodojmfaa

namespace Go.Proofs.Ytkdjmfaodojmfaa
open Go.RowKit

/-! The document's text (wealdref08), and 'shown'. -/
def isRefB (r : Int) : Bool := decide (0 ≤ r) && decide (r < 1048576)
theorem isRefB_true {r : Int} (h : isRefB r = true) : isRef r := by simpa [isRefB, isRef] using h
theorem is_any (r : Int) (w : World) :
    Calls Try.prog 30 #[.int .i64 r] w fun e w' => e = .returned (.bool (isRefB r)) ∧ w = w' := by
  by_cases h0 : 0 ≤ r
  · go_enter Try.func30, Try.ntmps30
    go_wp2
    all_goals go_ret
    all_goals exact ⟨ret_bool (by simp [isRefB, h0]), rfl⟩
  · have h1 : decide (0 ≤ r) = false := by simpa using h0
    go_enter Try.func30, Try.ntmps30
    go_wp2
    all_goals go_ret
    all_goals exact ⟨ret_bool (by simp [isRefB]; omega), rfl⟩
theorem rlink_ref (r : Int) (hr : isRef r) (m : Bool) (w : World) :
    Calls Try.prog 34 #[.int .i64 r, .bool m] w fun e w' => e = .returned (.int .u64 (linkF r m)) ∧ w = w' := by
  have hr' := hr
  obtain ⟨h0, h1⟩ := hr'
  cases m
  all_goals
    go_enter Try.func34, Try.ntmps34
    go_wp2
    go_ret
    refine ⟨ret_int ?_, rfl⟩
    rw [link_ref hr]; simp
theorem rref_any (n : Int) (h : U64 n) (w : World) :
    Calls Try.prog 36 #[.int .u64 n] w fun e w' => e = .returned (.int .i64 (refF n)) ∧ w = w' := by
  have h0 := h.1
  have h9 := h.2
  go_enter Try.func36, Try.ntmps36
  go_wp2
  go_ret
  exact ⟨ret_int (by simp [refF]), rfl⟩
theorem rmark_any (n : Int) (h : U64 n) (w : World) :
    Calls Try.prog 38 #[.int .u64 n] w fun e w' => e = .returned (.bool (markF n)) ∧ w = w' := by
  have h0 := h.1
  have h9 := h.2
  go_enter Try.func38, Try.ntmps38
  go_wp2
  go_ret
  exact ⟨ret_bool (by simp [markF]), rfl⟩
theorem rflag_any (s b : Int) (hs : U64 s) (w : World) :
    Calls Try.prog 40 #[.int .u64 s, .int .i64 b] w fun e w' => e = .returned (.int .u64 (flagF s b)) ∧ w = w' := by
  have h0 := hs.1
  have hb := (u64_wrap b).1
  go_enter Try.func40, Try.ntmps40
  go_wp2
  go_ret
  refine ⟨ret_int ?_, rfl⟩
  rw [flag_eq s b hs]; simp
  try rw [wrap_u64_mod b 4 rfl (by omega)]
theorem rstamp_any (n : Int) (h : U64 n) (w : World) :
    Calls Try.prog 42 #[.int .u64 n] w fun e w' => e = .returned (.int .u64 (stampF n)) ∧ w = w' := by
  have h0 := h.1
  have h9 := h.2
  go_enter Try.func42, Try.ntmps42
  go_wp2
  go_ret
  exact ⟨ret_int (by simp [stampF]), rfl⟩
theorem rhas_any (n b : Int) (h : U64 n) (w : World) :
    Calls Try.prog 44 #[.int .u64 n, .int .i64 b] w fun e w' => e = .returned (.bool (hasF n b)) ∧ w = w' := by
  have h0 := h.1
  have h9 := h.2
  have hb := u64_wrap b
  have hb0 := hb.1
  have hb1 := hb.2
  have e : IntKind.u64.wrap b % 4 = b % 4 := wrap_u64_mod b 4 rfl (by omega)
  have e' : hasF n b = hasB n (IntKind.u64.wrap b % 4) := by unfold hasF; rw [e]
  rw [e']
  clear e e'
  have hm : IntKind.u64.wrap b % 4 = 0 ∨ IntKind.u64.wrap b % 4 = 1 ∨ IntKind.u64.wrap b % 4 = 2 ∨ IntKind.u64.wrap b % 4 = 3 := by omega
  rcases hm with hm | hm | hm | hm <;> rw [hm]
  · go_enter Try.func44, Try.ntmps44
    go_wp2
    go_ret
    exact ⟨rfl, rfl⟩
  · cases h2 : (n % 2 == 1)
    all_goals
      go_enter Try.func44, Try.ntmps44
      go_wp2
      go_ret
      exact ⟨ret_bool (by simp [hasB, h2]), rfl⟩
  · cases h2 : (n / 2 % 2 == 1)
    all_goals
      go_enter Try.func44, Try.ntmps44
      go_wp2
      go_ret
      exact ⟨ret_bool (by simp [hasB, h2]), rfl⟩
  · cases h2 : (n % 2 == 1)
    · go_enter Try.func44, Try.ntmps44
      go_wp2
      go_ret
      exact ⟨ret_bool (by simp [hasB, h2]), rfl⟩
    · cases h3 : (n / 2 % 2 == 1)
      all_goals
        go_enter Try.func44, Try.ntmps44
        go_wp2
        go_ret
        exact ⟨ret_bool (by simp [hasB, h2, h3]), rfl⟩
theorem rtop_ref (r t : Int) (hr : isRef r) (ht : U64 t) (w : World) :
    Calls Try.prog 46 #[.int .i64 r, .int .u64 t] w fun e w' => e = .returned (.int .u64 (topF r t)) ∧ w = w' := by
  have hr' := hr
  obtain ⟨h0, h1⟩ := hr'
  have h2 := ht.1
  go_enter Try.func46, Try.ntmps46
  go_wp2
  go_ret
  exact ⟨ret_int (top_ref hr ht).symm, rfl⟩
theorem rfirst_any (n : Int) (h : U64 n) (w : World) :
    Calls Try.prog 48 #[.int .u64 n] w fun e w' => e = .returned (.int .i64 (firstF n)) ∧ w = w' := by
  have h0 := h.1
  have h9 := h.2
  go_enter Try.func48, Try.ntmps48
  go_wp2
  go_ret
  exact ⟨ret_int (by simp [firstF]), rfl⟩
theorem rtag_any (n : Int) (h : U64 n) (w : World) :
    Calls Try.prog 24 #[.int .u64 n] w fun e w' => e = .returned (.int .u64 (tagF n)) ∧ w = w' := by
  have h0 := h.1
  have h9 := h.2
  go_enter Try.func24, Try.ntmps24
  go_wp2
  go_ret
  exact ⟨ret_int (by simp [tagF]), rfl⟩
theorem rends_ref (u v : Int) (hu : isRef u) (hv : isRef v) (w : World) :
    Calls Try.prog 51 #[.int .i64 u, .int .i64 v] w fun e w' => e = .returned (.int .u64 (endsF u v)) ∧ w = w' := by
  have hu' := hu
  have hv' := hv
  obtain ⟨h0, h1⟩ := hu'
  obtain ⟨h2, h3⟩ := hv'
  go_enter Try.func51, Try.ntmps51
  go_wp2
  go_ret
  exact ⟨ret_int (ends_ref hu hv).symm, rfl⟩
theorem rpair_any (n : Int) (h : U64 n) (w : World) :
    Calls Try.prog 32 #[.int .u64 n] w fun e w' => e = .returned (.tuple #[.int .i64 (firstF n), .int .i64 (firstF (tagF n))]) ∧ w = w' := by
  have h0 := h.1
  have h9 := h.2
  go_enter Try.func32, Try.ntmps32
  go_wp2
  go_ret2
  exact ⟨by simp [firstF, tagF], rfl⟩

theorem shown8_any (w : World) :
    Calls Try.prog 29 #[] w fun e w' => e = .returned (.bool true) ∧ w = w' := by
  have k1 : (linkF 3 true == 7) = true := by decide
  have k2 : (refF 7 == 3) = true := by decide
  have k3 : markF 7 = true := by decide
  have k4 : markF 6 = false := by decide
  have k5 : (flagF 5 2 == 22) = true := by decide
  have k6 : (stampF 22 == 5) = true := by decide
  have k7 : hasF 22 2 = true := by decide
  have k8 : hasF 22 1 = false := by decide
  have k9 : (topF 1 1 == 1048577) = true := by rw [top_ref ⟨by omega, by omega⟩ ⟨by omega, by omega⟩]; decide
  have k10 : (firstF 1048577 == 1) = true := by decide
  have k11 : (tagF 1048577 == 1) = true := by decide
  have ke : endsF 3 4 = 4194307 := by rw [ends_ref ⟨by omega, by omega⟩ ⟨by omega, by omega⟩]; decide
  have k12 : (firstF (endsF 3 4) == 3) = true := by rw [ke]; decide
  have k13 : (firstF (tagF (endsF 3 4)) == 4) = true := by rw [ke]; decide
  have u1 := ends_u64 3 4
  have u7 : U64 7 := ⟨by omega, by omega⟩
  have u6 : U64 6 := ⟨by omega, by omega⟩
  have u22 : U64 22 := ⟨by omega, by omega⟩
  have u10 : U64 1048577 := ⟨by omega, by omega⟩
  clear ke
  go_enter Try.func29, Try.ntmps29
  go_wp2_with (first
    | (go_at_call 50; refine (ends_any _ _ _).mono ?_; rintro e w' ⟨rfl, rfl⟩)
    | (go_at_call 31; refine (pair_any _ (by assumption) _).mono ?_; rintro e w' ⟨rfl, rfl⟩)
    | (go_at_call 33; refine (link_any _ _ _).mono ?_; rintro e w' ⟨rfl, rfl⟩)
    | (go_at_call 35; refine (ref_any _ (by assumption) _).mono ?_; rintro e w' ⟨rfl, rfl⟩)
    | (go_at_call 37; refine (mark_any _ (by assumption) _).mono ?_; rintro e w' ⟨rfl, rfl⟩)
    | (go_at_call 39; refine (flag_any _ _ _).mono ?_; rintro e w' ⟨rfl, rfl⟩)
    | (go_at_call 41; refine (stamp_any _ _).mono ?_; rintro e w' ⟨rfl, rfl⟩)
    | (go_at_call 43; refine (has_any _ _ (by assumption) _).mono ?_; rintro e w' ⟨rfl, rfl⟩)
    | (go_at_call 45; refine (top_any _ _ _).mono ?_; rintro e w' ⟨rfl, rfl⟩)
    | (go_at_call 47; refine (first_any _ (by assumption) _).mono ?_; rintro e w' ⟨rfl, rfl⟩)
    | (go_at_call 49; refine (tag_any _ _).mono ?_; rintro e w' ⟨rfl, rfl⟩))
  go_ret
  exact ⟨rfl, rfl⟩
end Go.Proofs.Ytkdjmfaodojmfaa

namespace Go.Proofs.Ytkdjmfaodojmfaa
open Go.RowKit

/-! wealdref12.Pop, wealdref12.Push: what popN and pushN say. -/
def Cu.after (rs : List Res) (s : Cu) : ProgE → Cu
  | .stop x => ⟨rs.length, true, x⟩
  | .ret _ k => ⟨k, false, s.x⟩
def ProgE.val : ProgE → Int
  | .stop _ => 0
  | .ret r _ => r
theorem rfieldB_any (t r : Int) (h1 : 0 ≤ t) (h2 : t ≤ 64) (h3 : 0 ≤ r) (h4 : r ≤ 1048576) (w : World) :
    Calls Try.prog 65 #[.int .i64 t, .int .i64 r, .int .i64 7] w fun e w' => e = .returned (.int .i64 (linkI t r)) ∧ w = w' :=
  (rfield_any t r 7 (by omega) (by omega) (by omega) (by omega) (by omega) (by omega) w).mono fun _ _ ⟨he, hw⟩ => ⟨by rw [he]; rfl, hw⟩
theorem Cu.on {rs : List Res} {s : Cu} {y : Acc} {r : Res} {R : List Res} (hs : s.stop = false) (h : rs.drop s.i = r :: R) : s.told rs = r ∧ s.next rs y = ⟨s.i + 1, false, s.x⟩ ∧ rs.drop (s.i + 1) = R := by
  have h1 : s.i < rs.length := by
    rcases Nat.lt_or_ge s.i rs.length with h' | h'
    · exact h'
    · rw [List.drop_eq_nil_of_le h'] at h; cases h
  have h2 : rs[s.i]? = some r := by rw [List.getElem?_eq_getElem h1]; rw [List.drop_eq_getElem_cons h1] at h; injection h with h _; rw [h]
  refine ⟨by simp [Cu.told, hs, h2], by simp [Cu.next, hs, h1], ?_⟩
  rw [show rs.drop (s.i + 1) = (rs.drop s.i).drop 1 by rw [List.drop_drop], h]; rfl
theorem Cu.off {rs : List Res} {s : Cu} {y : Acc} (hs : s.stop = false) (h : rs.drop s.i = []) (hi : s.i ≤ rs.length) : s.told rs = Res.zero ∧ s.next rs y = ⟨rs.length, true, y⟩ := by
  have h1 : s.i = rs.length := by
    rcases Nat.lt_or_ge s.i rs.length with h' | h'
    · rw [List.drop_eq_getElem_cons h'] at h; cases h
    · omega
  refine ⟨by simp [Cu.told, hs, h1], by simp [Cu.next, hs, h1]⟩
theorem Cu.still {rs : List Res} {s : Cu} {y : Acc} (hs : s.stop = true) : s.told rs = Res.zero ∧ s.next rs y = s := by simp [Cu.told, Cu.next, hs]
def curM (g : Nat) (w : World) : Nat := match w.cell? ⟨g, 2, none⟩ with
  | some (.bool true) => 0
  | _ => match w.cell? ⟨g, 1, none⟩ with
    | some (.int _ i) => 65537 - i.toNat
    | _ => 0
theorem CurAt.cells {w : World} {g : Nat} {A : Option Addr} {n c : Nat} {s : Cu} (h : CurAt w g A n c s) : w.cell? ⟨g, 1, none⟩ = some (.int .i64 (s.i : Int)) ∧ w.cell? ⟨g, 2, none⟩ = some (.bool s.stop) := by
  unfold CurAt curCells at h
  simp [World.cell?, h]
theorem CurAt.m {w : World} {g : Nat} {A : Option Addr} {n c : Nat} {s : Cu} (h : CurAt w g A n c s) : curM g w = if s.stop then 0 else 65537 - s.i := by
  obtain ⟨h1, h2⟩ := h.cells
  unfold curM
  rw [h2, h1]
  cases s.stop <;> simp
theorem first0 : firstF 0 = 0 := rfl
set_option maxRecDepth 100000 in
set_option maxHeartbeats 4000000 in
theorem rpop_any (t : Int) (g : Nat) (A : Option Addr) (n c : Nat) (s : Cu) (rs : List Res) (w : World) (hlog : LogV w A n c rs) (hsep : ∀ a, A = some a → 0 < n → a.block ≠ g) (hcur : CurAt w g A n c s) (hs : s.stop = false) (hi : s.i ≤ rs.length) (ht1 : 0 ≤ t) (ht2 : t ≤ 64) (hU : GoodR rs) :
    Calls Try.prog 112 #[.pointer (some ⟨g, 0, none⟩), .int .i64 t] w fun e w' => e = .returned (.int .i64 (popN t s.i ((rs.map Res.n).drop s.i)).val) ∧ CurAt w' g A n c (s.after rs (popN t s.i ((rs.map Res.n).drop s.i))) ∧ ExtB g w w' := by
  obtain ⟨P, hP⟩ : ∃ P, popN t s.i ((rs.map Res.n).drop s.i) = P := ⟨_, rfl⟩
  have HP := Lib.hid hP
  clear hP
  have hsm : rs.length ≤ 65536 := by rw [hlog.len]; exact hlog.small
  go_enter Try.func112, Try.ntmps112
  go_wp2
  go_loopw [4] (fun rv wr => ∃ s' : Cu, rv = .int .i64 0 ∧ CurAt wr g A n c s' ∧ ExtB g w wr ∧ ((s'.stop = false ∧ s'.i ≤ rs.length ∧ s'.x = s.x ∧ popN t s'.i ((rs.map Res.n).drop s'.i) = P) ∨ (s'.stop = true ∧ ∃ x, P = .stop x ∧ s' = ⟨rs.length, true, x⟩))) (fun _ wr => curM g wr)
  case atStart => exact ⟨s, rfl, hcur, ExtB.refl _ _, .inl ⟨hs, hi, rfl, HP.out⟩⟩
  case round =>
    obtain ⟨s', rfl, hC, hB, hst⟩ := hrel
    have hL := hlog.cur hB hsep
    obtain ⟨-, c2⟩ := hC.cells
    have hm := hC.m
    rcases hst with ⟨h1, h2, h3, h4⟩ | ⟨h1, x, rfl, rfl⟩
    · rw [h1] at c2 hm
      simp only [Bool.false_eq_true, if_false] at hm
      have HM := Lib.hid hm
      have H4 := Lib.hid h4
      clear hm h4
      go_wp2_with fail
      refine (cload_any 1 g A n c s' rs _ hL hsep hC).mono ?_
      rintro e w1 ⟨rfl, hC1, hx1⟩
      clear c2 hC
      replace hB := hB.trans hx1
      replace hL := hL.cur hx1 hsep
      cases hR : rs.drop s'.i with
      | nil =>
        obtain ⟨e1, e2⟩ := Cu.off (y := accL 1) h1 hR h2
        rw [e1]
        rw [e2] at hC1
        have hPe : P = .stop (accL 1) := by rw [← H4.out, ← List.map_drop, hR]; rfl
        simp only [Res.zero]
        go_wp2_with fail
        refine (rfirst_any 0 (by unfold U64; omega) _).mono ?_
        rintro e w' ⟨rfl, rfl⟩
        rw [first0]
        go_wp2
        go_ret
        exact ⟨by rw [HP.out, hPe]; rfl, by rw [HP.out, hPe]; exact hC1, hB⟩
      | cons r1 R1 =>
        obtain ⟨e1, e2, e3⟩ := Cu.on (y := accL 1) h1 hR
        rw [e1]
        rw [e2] at hC1
        have hU1 : U64 r1.n := hU.drop s'.i r1 (by rw [hR]; simp)
        obtain ⟨hf0, hf1⟩ := firstF_rng hU1
        go_wp2_with fail
        refine (rfirst_any _ hU1 _).mono ?_
        rintro e w' ⟨rfl, rfl⟩
        by_cases h0 : firstF r1.n = 0
        · have hPe : P = .ret 0 (s'.i + 1) := by
            rw [← H4.out, ← List.map_drop, hR]
            rcases R1 with _ | ⟨r2, _ | ⟨r3, R3⟩⟩ <;> simp [popN, h0]
          rw [h0]
          go_wp2
          go_ret
          exact ⟨by rw [HP.out, hPe]; rfl, by rw [HP.out, hPe]; simpa [Cu.after, h3] using hC1, hB⟩
        · go_wp2_with fail
          refine (rfieldB_any t _ ht1 ht2 hf0 (by omega) _).mono ?_
          rintro e w' ⟨rfl, rfl⟩
          go_wp2_with fail
          refine (cload_any _ g A n c _ rs _ hL hsep hC1).mono ?_
          rintro e w2 ⟨rfl, hC2, hx2⟩
          replace hB := hB.trans hx2
          replace hL := hL.cur hx2 hsep
          cases hR1 : R1 with
          | nil =>
            obtain ⟨d1, d2⟩ := Cu.off (s := ⟨s'.i + 1, false, s'.x⟩) (y := accL (linkI t (firstF r1.n))) rfl (by simpa [hR1] using e3) (by have := congrArg List.length hR; simp at this; simp only; omega)
            rw [d1]
            rw [d2] at hC2
            have hPe : P = .stop (accL (linkI t (firstF r1.n))) := by rw [← H4.out, ← List.map_drop, hR, hR1]; simp [popN, h0]
            simp only [Res.zero]
            go_wp2_with fail
            refine (rfirst_any 0 (by unfold U64; omega) _).mono ?_
            rintro e w' ⟨rfl, rfl⟩
            rw [first0]
            go_wp2_with fail
            refine (rtag_any _ hU1 _).mono ?_
            rintro e w' ⟨rfl, rfl⟩
            have htU := tagF_rng hU1
            have hwr : IntKind.u64.wrap (tagF r1.n + 1) = (tagF r1.n + 1) % 18446744073709551616 := IntKind.wrap_u64 _
            have htg : U64 ((tagF r1.n + 1) % 18446744073709551616) := by unfold U64; omega
            have htn : topF (0) ((tagF r1.n + 1) % 18446744073709551616) = topN (0) r1.n := rfl
            generalize (tagF r1.n + 1) % 18446744073709551616 = tg at *
            go_wp2_with fail
            refine (rtop_ref _ _ (by unfold isRef; omega) htg _).mono ?_
            rintro e w' ⟨rfl, rfl⟩
            rw [htn]
            clear hwr htg htn htU
            go_wp2_with fail
            refine (ccas_any _ _ _ g A n c _ rs _ hL hsep hC2).mono ?_
            rintro e w3 ⟨rfl, hC3, hx3⟩
            rw [(Cu.still (rs := rs) (y := accC 1 0 0) (s := ⟨rs.length, true, accL (linkI t (firstF r1.n))⟩) rfl).1]
            rw [(Cu.still (rs := rs) rfl).2] at hC3
            simp only [Res.zero]
            have hm3 := hC3.m
            simp only [if_true] at hm3
            go_wp2
            go_roundw
            case rel => exact ⟨_, rfl, hC3, hB.trans hx3, .inr ⟨rfl, _, hPe, rfl⟩⟩
            case measure => rw [HM.out, hm3]; omega
          | cons r2 R2 =>
            obtain ⟨d1, d2, d3⟩ := Cu.on (s := ⟨s'.i + 1, false, s'.x⟩) (y := accL (linkI t (firstF r1.n))) rfl (by simpa [hR1] using e3)
            rw [d1]
            rw [d2] at hC2
            simp only at hC2 d3
            have hU2 : U64 r2.n := hU.drop s'.i r2 (by rw [hR, hR1]; simp)
            obtain ⟨hg0, hg1⟩ := firstF_rng hU2
            go_wp2_with fail
            refine (rfirst_any _ hU2 _).mono ?_
            rintro e w' ⟨rfl, rfl⟩
            go_wp2_with fail
            refine (rtag_any _ hU1 _).mono ?_
            rintro e w' ⟨rfl, rfl⟩
            have htU := tagF_rng hU1
            have hwr : IntKind.u64.wrap (tagF r1.n + 1) = (tagF r1.n + 1) % 18446744073709551616 := IntKind.wrap_u64 _
            have htg : U64 ((tagF r1.n + 1) % 18446744073709551616) := by unfold U64; omega
            have htn : topF (firstF r2.n) ((tagF r1.n + 1) % 18446744073709551616) = topN (firstF r2.n) r1.n := rfl
            generalize (tagF r1.n + 1) % 18446744073709551616 = tg at *
            go_wp2_with fail
            refine (rtop_ref _ _ (by unfold isRef; omega) htg _).mono ?_
            rintro e w' ⟨rfl, rfl⟩
            rw [htn]
            clear hwr htg htn htU
            go_wp2_with fail
            refine (ccas_any _ _ _ g A n c _ rs _ hL hsep hC2).mono ?_
            rintro e w3 ⟨rfl, hC3, hx3⟩
            cases hR2 : R2 with
            | nil =>
              obtain ⟨f1, f2⟩ := Cu.off (s := ⟨s'.i + 1 + 1, false, s'.x⟩) (y := accC 1 r1.n (topN (firstF r2.n) r1.n)) rfl (by simpa [hR2] using d3) (by have := congrArg List.length hR; rw [hR1] at this; simp at this; simp only; omega)
              rw [f1]
              rw [f2] at hC3
              have hPe : P = .stop (accC 1 r1.n (topN (firstF r2.n) r1.n)) := by rw [← H4.out, ← List.map_drop, hR, hR1, hR2]; simp [popN, h0]
              simp only [Res.zero]
              have hm3 := hC3.m
              simp only [if_true] at hm3
              go_wp2
              go_roundw
              case rel => exact ⟨_, rfl, hC3, hB.trans hx3, .inr ⟨rfl, _, hPe, rfl⟩⟩
              case measure => rw [HM.out, hm3]; omega
            | cons r3 R3 =>
              obtain ⟨f1, f2, f3⟩ := Cu.on (s := ⟨s'.i + 1 + 1, false, s'.x⟩) (y := accC 1 r1.n (topN (firstF r2.n) r1.n)) rfl (by simpa [hR2] using d3)
              rw [f1]
              rw [f2] at hC3
              simp only at hC3 f3
              by_cases hn1 : r3.n = 1
              · have hPe : P = .ret (firstF r1.n) (s'.i + 3) := by rw [← H4.out, ← List.map_drop, hR, hR1, hR2]; simp [popN, h0, hn1]
                have hb1 : (r3.n == 1) = true := by simp [hn1]
                rw [hb1]
                go_wp2
                go_ret
                exact ⟨by rw [HP.out, hPe]; rfl, by rw [HP.out, hPe]; simpa [Cu.after, h3] using hC3, hB.trans hx3⟩
              · have hPe : popN t (s'.i + 1 + 1 + 1) ((rs.map Res.n).drop (s'.i + 1 + 1 + 1)) = P := by
                  rw [← H4.out, ← List.map_drop, ← List.map_drop, f3, hR, hR1, hR2]; simp [popN, h0, hn1]
                have hb1 : (r3.n == 1) = false := by simp [hn1]
                have hm3 := hC3.m
                simp only [Bool.false_eq_true, if_false] at hm3
                have hll : s'.i + 1 + 1 + 1 ≤ rs.length := by have := congrArg List.length hR; rw [hR1, hR2] at this; simp at this; omega
                have HPE := Lib.hid hPe
                have HM3 := Lib.hid hm3
                clear hPe hm3
                rw [hb1]
                go_wp2
                go_roundw
                case rel => exact ⟨_, rfl, hC3, hB.trans hx3, .inl ⟨rfl, hll, h3, HPE.out⟩⟩
                case measure => rw [HM.out, HM3.out]; omega
    · simp only at c2
      go_wp2
      go_ret
      exact ⟨by rw [HP.out]; rfl, by rw [HP.out]; exact hC, hB⟩
end Go.Proofs.Ytkdjmfaodojmfaa

namespace Go.Proofs.Ytkdjmfaodojmfaa
open Go.RowKit

/-! A row of ints of the call's own, its spare part known too: what is laid onto it turns no world. -/
def intCells (l : List Int) : List Value := l.map (.int .i64)
theorem intCells_append (a b : List Int) : intCells (a ++ b) = intCells a ++ intCells b := by simp [intCells]
theorem intCells_length (l : List Int) : (intCells l).length = l.length := by simp [intCells]
theorem intCells_take (l : List Int) (n : Nat) : (intCells l).take n = intCells (l.take n) := by simp [intCells, List.map_take]
theorem intCells_drop (l : List Int) (n : Nat) : (intCells l).drop n = intCells (l.drop n) := by simp [intCells, List.map_drop]
theorem intCells_at {l : List Int} {i : Nat} {x : Int} (h : l[i]? = some x) : (intCells l)[i]? = some (.int .i64 x) := by simp [intCells, h]
theorem intCells_one (l : List Int) : ∀ u ∈ intCells l, u.oneCell' = true := by
  intro u hu
  obtain ⟨x, _, rfl⟩ := List.mem_map.1 hu
  rfl
theorem int_boxish : ∀ l : List Int, boxish (intCells l) = true
  | [] => rfl
  | [r] => rfl
  | r :: r' :: l => by
    have h := int_boxish (r' :: l)
    simpa [intCells, boxish, kindV] using h
theorem info_i64 : (Try.prog.info? 3).map (fun i => (i.zero, i.size, i.bytes)) = some (some (.int .i64 0), 1, 8) := by kernel_rfl
theorem zero_int (k : Nat) : (Builtin.zeroCells (Value.cells (.int .i64 0)) k).toList = intCells (List.replicate k 0) := by
  refine List.ext_getElem? fun x => ?_
  by_cases hx : x < k
  · simp [Builtin.zeroCells, intCells, Value.cells, hx, Nat.mod_one]
  · rw [List.getElem?_eq_none (by simp [Builtin.zeroCells, Value.cells]; omega), List.getElem?_eq_none (by rw [intCells_length]; simp; omega)]
def IntOwn (w : World) (base : Nat) (v : Value) (n : Nat) (l : List Int) : Prop :=
  l.length = n ∧ ((v = .slice none 0 0 ∧ n = 0) ∨ ∃ g cap full, v = .slice (some ⟨g, 0, none⟩) n cap ∧ base ≤ g ∧ w.heap[g]? = some (.cells (intCells full).toArray 3 (0, 0)) ∧ n ≤ cap ∧ cap ≤ maxLen ∧ full.length = cap ∧ full.take n = l)
theorem IntOwn.nil (w : World) (base : Nat) : IntOwn w base (.slice none 0 0) 0 [] := ⟨rfl, .inl ⟨rfl, rfl⟩⟩
theorem IntOwn.kept {w w' : World} {base : Nat} {v : Value} {n : Nat} {l : List Int} (h : IntOwn w base v n l) (hk : ∀ g o, base ≤ g → some g = v.ownBlock → w.heap[g]? = some o → w'.heap[g]? = some o) : IntOwn w' base v n l := by
  refine ⟨h.1, ?_⟩
  rcases h.2 with h2 | ⟨g, cap, full, e, hb, hg, h3⟩
  · exact .inl h2
  · exact .inr ⟨g, cap, full, e, hb, hk g _ hb (by rw [e]; rfl) hg, h3⟩
theorem IntOwn.ext {w w' : World} {base : Nat} {v : Value} {n : Nat} {l : List Int} (h : IntOwn w base v n l) (hx : Ext w w') : IntOwn w' base v n l := h.kept fun _ _ _ _ ho => heap_ext ho hx
/-- another own row grows -/
theorem IntOwn.grown {w w' : World} {base : Nat} {v u : Value} {n : Nat} {l : List Int} (h : IntOwn w base v n l) (hg : w.grownBy w' u.ownBlock) (hne : ∀ g, v.ownBlock = some g → u.ownBlock ≠ some g) : IntOwn w' base v n l :=
  h.kept fun g o _ hv ho => by
    rw [hg.block g (Array.getElem?_eq_some_iff.1 ho).1 (fun e => hne g hv.symm e.symm)]; exact ho
theorem IntOwn.form {w : World} {base : Nat} {v : Value} {n : Nat} {l : List Int} (h : IntOwn w base v n l) : ∃ B c, v = .slice B n c ∧ Cells w B (intCells l) ∧ (B = none → c = 0 ∧ n = 0) ∧ (∀ b, B = some b → ∃ g, b = ⟨g, 0, none⟩ ∧ base ≤ g ∧ v.ownBlock = some g) ∧ n ≤ c ∧ c ≤ maxLen := by
  obtain ⟨hl, h⟩ := h
  rcases h with ⟨rfl, rfl⟩ | ⟨g, cap, full, rfl, hb, hg, h1, h2, h3, rfl⟩
  · have : l = [] := List.eq_nil_of_length_eq_zero hl
    subst this
    exact ⟨none, 0, rfl, Cells.nil _ _, fun _ => ⟨rfl, rfl⟩, (by intro b h; cases h), Nat.le_refl _, by simp only [maxLen]; omega⟩
  · refine ⟨_, _, rfl, fun _ => ⟨_, rfl, fun j u hj => ?_⟩, (by intro h; cases h), (by intro b h; cases h; exact ⟨g, rfl, hb, rfl⟩), h1, h2⟩
    rw [← intCells_take, List.getElem?_take] at hj
    split at hj
    · obtain ⟨a, ha, hc⟩ := cells_heap hg (fun e => by rw [e] at hj; simp at hj)
      cases ha
      exact hc j u hj
    · cases hj
/-- an element of it -/
theorem IntOwn.at {w : World} {base : Nat} {v : Value} {n : Nat} {l : List Int} (h : IntOwn w base v n l) {i : Nat} {x : Int} (hi : l[i]? = some x) : ∃ g c, v = .slice (some ⟨g, 0, none⟩) n c ∧ base ≤ g ∧ n ≤ c ∧ c ≤ maxLen ∧ w.cell? ⟨g, i, none⟩ = some (.int .i64 x) := by
  obtain ⟨hl, h⟩ := h
  rcases h with ⟨rfl, rfl⟩ | ⟨g, cap, full, rfl, hb, hg, h1, h2, h3, rfl⟩
  · have : l = [] := List.eq_nil_of_length_eq_zero hl
    subst this; simp at hi
  · refine ⟨g, cap, rfl, hb, h1, h2, ?_⟩
    rw [List.getElem?_take] at hi
    split at hi
    · have := intCells_at hi
      simp only [World.cell?, hg, Option.isSome_none, Bool.false_eq_true, if_false]
      simpa using this
    · cases hi
/-- the last one taken off -/
theorem IntOwn.pop {w : World} {base : Nat} {g cap n : Nat} {l : List Int} (h : IntOwn w base (.slice (some ⟨g, 0, none⟩) (n + 1) cap) (n + 1) l) : IntOwn w base (.slice (some ⟨g, 0, none⟩) n cap) n l.dropLast := by
  obtain ⟨hl, h⟩ := h
  rcases h with ⟨h, _⟩ | ⟨g', cap', full, e, hb, hg, h1, h2, h3, rfl⟩
  · cases h
  · cases e
    refine ⟨by rw [List.length_dropLast, hl]; omega, .inr ⟨g, cap, full, rfl, hb, hg, by omega, h2, h3, ?_⟩⟩
    rw [List.dropLast_eq_take, List.take_take, hl]
    congr 1; omega
theorem WldV.grownI {w w' : World} {base : Nat} {v : Value} {n : Nat} {l : List Int} (h : IntOwn w base v n l) (hg : w.grownBy w' v.ownBlock) {x : Value} {X : WldK} (hV : WldV w x X) (hl : 2 ≤ X.ws.length) : WldV w' x X := by
  rcases h.2 with ⟨rfl, _⟩ | ⟨g, cap, full, rfl, _, hh, _⟩
  · exact hV.ext ⟨hg.os, hg.tape, hg.output, hg.size, fun k hk => hg.block k hk (by simp [Value.ownBlock])⟩
  · refine hV.but hl (g := g) (fun k o hk ho => ?_) hh (int_boxish full)
    rw [hg.block k (Array.getElem?_eq_some_iff.1 ho).1 (by simp [Value.ownBlock]; exact hk)]; exact ho
theorem grownI_heap {w w' : World} {base : Nat} {v : Value} {n : Nat} {l : List Int} (h : IntOwn w base v n l) (hg : w.grownBy w' v.ownBlock) {k : Nat} {o : Obj} (hk : v.ownBlock ≠ some k) (ho : w.heap[k]? = some o) : w'.heap[k]? = some o := by
  rw [hg.block k (Array.getElem?_eq_some_iff.1 ho).1 (fun e => hk e.symm)]; exact ho
theorem IntOwn.low {w : World} {base : Nat} {v : Value} {n : Nat} {l : List Int} (h : IntOwn w base v n l) {k : Nat} (hk : k < base) : v.ownBlock ≠ some k := by
  rcases h.2 with ⟨rfl, _⟩ | ⟨g, cap, full, rfl, hb, hh, _⟩
  · simp [Value.ownBlock]
  · simp only [Value.ownBlock]; intro e; injection e with e; omega
theorem IntOwn.lt {w : World} {base : Nat} {v : Value} {n : Nat} {l : List Int} (h : IntOwn w base v n l) {k : Nat} (hk : v.ownBlock = some k) : base ≤ k ∧ k < w.heap.size := by
  rcases h.2 with ⟨rfl, _⟩ | ⟨g, cap, full, rfl, hb, hh, _⟩
  · simp [Value.ownBlock] at hk
  · simp only [Value.ownBlock] at hk; injection hk with hk; subst hk; exact ⟨hb, (Array.getElem?_eq_some_iff.1 hh).1⟩
theorem IntOwn.ne_box {w : World} {base : Nat} {v : Value} {n : Nat} {l : List Int} (h : IntOwn w base v n l) {k : Nat} {cs : Array Value} {T : TypeId} {fr : Nat × Nat} (hk : w.heap[k]? = some (.cells cs T fr)) (hT : T ≠ 3) : v.ownBlock ≠ some k := by
  rcases h.2 with ⟨rfl, _⟩ | ⟨g, cap, full, rfl, hb, hh, _⟩
  · simp [Value.ownBlock]
  · simp only [Value.ownBlock]; intro e; injection e with e; subst e
    rw [hh] at hk; simp only [Option.some.injEq, Obj.cells.injEq] at hk; exact hT hk.2.1.symm
theorem grownI_ext {w0 w w' : World} {base : Nat} {v : Value} {n : Nat} {l : List Int} (h : IntOwn w base v n l) (hg : w.grownBy w' v.ownBlock) (h0 : Ext w0 w) (hb : w0.heap.size ≤ base) : Ext w0 w' :=
  ⟨hg.os.trans h0.os, hg.tape.trans h0.tape, hg.output.trans h0.output, Nat.le_trans h0.size hg.size, fun k hk => by
    have h1 : k < w.heap.size := Nat.lt_of_lt_of_le hk h0.size
    obtain ⟨o, ho⟩ : ∃ o, w.heap[k]? = some o := ⟨_, Array.getElem?_eq_getElem h1⟩
    rw [grownI_heap h hg (h.low (by omega)) ho, ← ho]
    exact h0.block k hk⟩
/-- a new row, or the old one -/
theorem run_append_int {P : Program} {w : World} (base : Nat) (t ty : TypeId) (i : TypeInfo) (ht : P.underlying t = some (.slice 3)) (hi : P.info? 3 = some i) (hz : i.zero = some (.int .i64 0)) (hsize : i.size = 1) (hby : i.bytes = 8)
    (v : Value) (n : Nat) (l : List Int) (hown : IntOwn w base v n l) (a : Addr) (m c : Nat) (l2 : List Int) (hm : l2.length = m) (h0 : v = .slice none 0 0 → 0 < m) (hnews : ∀ j u, (intCells l2)[j]? = some u → w.cell? (a.add j) = some u) (hn : n + m ≤ 1000000) (hbase : base ≤ w.heap.size) :
    ∃ v' w', (Builtin.append_ #[t, t] ty #[v, .slice (some a) m c]).run P w = .ok v' w' ∧ IntOwn w' base v' (n + m) (l ++ l2) ∧ w.grownBy w' v.ownBlock ∧ (v'.ownBlock = v.ownBlock ∨ v'.ownBlock = some w.heap.size) := by
  have hl1 : (intCells l2).length = m * i.size := by rw [hsize, intCells_length, hm, Nat.mul_one]
  have h1 := intCells_one l2
  have hlen : (l ++ l2).length = n + m := by rw [List.length_append, hown.1, hm]
  have grown : ∀ (old : Nat), old < n + m → ∀ (row : Option Nat),
      IntOwn (w.drew.alloc (.cells ((intCells l).toArray ++ (intCells l2).toArray ++ Builtin.zeroCells (Value.cells (.int .i64 0)) (grownCap w (n + m) old 3 - (n + m))) 3)) base
        (.slice (some ⟨w.heap.size, 0, none⟩) (n + m) (grownCap w (n + m) old 3)) (n + m) (l ++ l2) ∧
      w.grownBy (w.drew.alloc (.cells ((intCells l).toArray ++ (intCells l2).toArray ++ Builtin.zeroCells (Value.cells (.int .i64 0)) (grownCap w (n + m) old 3 - (n + m))) 3)) row := by
    intro old ho row
    have hge := grownCap_ge w (n + m) old 3
    have hcm : grownCap w (n + m) old 3 ≤ maxLen := grownCap_le_maxLen w (n + m) old _ (by simp only [maxLen]; omega)
    refine ⟨⟨hlen, .inr ⟨w.heap.size, _, (l ++ l2) ++ List.replicate (grownCap w (n + m) old 3 - (n + m)) 0, rfl, hbase, ?_, hge, hcm, ?_, ?_⟩⟩, ⟨rfl, rfl, rfl, by simp, fun k hk _ => heap_alloc_old w.drew _ hk⟩⟩
    · have e : ((intCells l).toArray ++ (intCells l2).toArray ++ Builtin.zeroCells (Value.cells (.int .i64 0)) (grownCap w (n + m) old 3 - (n + m))) = (intCells ((l ++ l2) ++ List.replicate (grownCap w (n + m) old 3 - (n + m)) 0)).toArray := by
        rw [intCells_append, intCells_append, ← zero_int]
        simp
      rw [e]
      exact heap_alloc_new w.drew _
    · rw [List.length_append, hlen, List.length_replicate]; omega
    · rw [← hlen]; exact List.take_left
  rcases hown.2 with ⟨rfl, rfl⟩ | ⟨g, cap, full, rfl, hbg, hg, hnc, hcm, hcl, htake⟩
  · have hx : l = [] := List.eq_nil_of_length_eq_zero hown.1
    subst hx
    have hr := run_append_nil (P := P) w t ty 3 i _ ht hi hz a m c (intCells l2) hl1 hnews (h0 rfl) (by omega) (by rw [hby]; omega)
    have hgr := grown 0 (by have := h0 rfl; omega) (Value.ownBlock (.slice none 0 0))
    simp only [Nat.zero_add, intCells, List.map_nil, Array.empty_append] at hgr hr ⊢
    exact ⟨_, _, hr, hgr.1, hgr.2, .inr rfl⟩
  · by_cases hroom : n + m ≤ cap
    · have hfit : n * i.size + (intCells l2).length ≤ (intCells full).toArray.size := by rw [hl1, hsize, List.size_toArray, intCells_length, hcl]; omega
      have hr := run_append_room (P := P) w t ty 3 i ht hi g n cap _ hg a m c (intCells l2) hl1 hnews h1 hroom hfit
      have e : ((intCells full).take (n * i.size) ++ intCells l2 ++ (intCells full).drop (n * i.size + (intCells l2).length)) = intCells ((l ++ l2) ++ full.drop (n + m)) := by
        rw [hl1, hsize, Nat.mul_one, Nat.mul_one, intCells_take, intCells_drop, htake, intCells_append, intCells_append]
      rw [List.toList_toArray, e] at hr
      refine ⟨_, _, hr, ⟨hlen, .inr ⟨g, cap, _, rfl, hbg, setRow_heap w g _ _ _ _ hg, hroom, hcm, ?_, ?_⟩⟩, ⟨rfl, rfl, rfl, by simp, fun k _ hk => setRow_other w g k _ (fun e => hk (by simp [Value.ownBlock, e]))⟩, .inl rfl⟩
      · rw [List.length_append, hlen, List.length_drop]; omega
      · rw [← hlen]; exact List.take_left
    · have holds : ∀ j u, (intCells l)[j]? = some u → w.cell? ((⟨g, 0, none⟩ : Addr).add j) = some u := fun j u hj => by
        rw [← htake, ← intCells_take, List.getElem?_take] at hj
        split at hj
        · obtain ⟨a', ha, hc⟩ := cells_heap hg (fun e => by rw [e] at hj; simp at hj)
          cases ha
          exact hc j u hj
        · cases hj
      have hr := run_append_grow (P := P) w t ty 3 i _ ht hi hz ⟨g, 0, none⟩ n cap (intCells l) (by rw [hsize, intCells_length, hown.1, Nat.mul_one]) holds a m c (intCells l2) hl1 hnews (by omega) (by omega) (growslice_fits (by omega) (by rw [hby]; omega))
      have hgr := grown cap (by omega) (Value.ownBlock (.slice (some ⟨g, 0, none⟩) n cap))
      exact ⟨_, _, hr, hgr.1, hgr.2, .inr rfl⟩
theorem wpList_append_int {P : Program} {ops : Array Oper} {rest : List Oper} {o : Oper} {a : Act} {Q : Exit → Act → World → Prop} {w : World} (hgd : o.guard = none) (s x : Operand) (t : TypeId)
    (ho : o.op = .call { callee := .builtin .append, args := #[s, x], argTypes := #[t, t] }) (base : Nat) (i : TypeInfo) (ht : P.underlying t = some (.slice 3)) (hi : P.info? 3 = some i) (hz : i.zero = some (.int .i64 0)) (hsize : i.size = 1) (hby : i.bytes = 8)
    (v : Value) (n : Nat) (l : List Int) (hs : a.eval s = v) (hown : IntOwn w base v n l) (ad : Addr) (m c : Nat) (l2 : List Int) (hm : l2.length = m) (h0 : v = .slice none 0 0 → 0 < m) (hx : a.eval x = .slice (some ad) m c) (hnews : ∀ j u, (intCells l2)[j]? = some u → w.cell? (ad.add j) = some u) (hn : n + m ≤ 1000000) (hbase : base ≤ w.heap.size)
    (h : ∀ v' w', IntOwn w' base v' (n + m) (l ++ l2) → w.grownBy w' v.ownBlock → (v'.ownBlock = v.ownBlock ∨ v'.ownBlock = some w.heap.size) → wpList P ops Q rest (a.put o.dst v') w') : wpList P ops Q (o :: rest) a w := by
  obtain ⟨v', w', hr, h2, h3, h4⟩ := run_append_int (P := P) (w := w) base t o.type i ht hi hz hsize hby v n l hown ad m c l2 hm h0 hnews hn hbase
  refine wpList_plain hgd fun _ hK => ?_
  unfold Oper.wp execOp
  simp only [ho, resolve, invoke, builtin, Sem.run_bind, Sem.run_pure, Result.andThen_ok, List.map_toArray, List.map_cons, List.map_nil, hs, hx, hr]
  exact hK _ _ (h v' w' h2 h3 h4)
end Go.Proofs.Ytkdjmfaodojmfaa

namespace Go.Proofs.Ytkdjmfaodojmfaa
open Go.RowKit

/-! wealdref12.Free: a chain's records. -/
def lenV : Value → Nat
  | .slice _ n _ => n
  | _ => 0
theorem IntOwn.lenV {w : World} {base : Nat} {v : Value} {n : Nat} {l : List Int} (h : IntOwn w base v n l) : lenV v = n := by
  rcases h.2 with ⟨rfl, rfl⟩ | ⟨g, cap, full, rfl, h3⟩ <;> rfl
theorem WldV.words {w : World} {X : WldK} {T C : Int} {A : Option Addr} {q c : Nat} {R : Int} {B C' : Option Addr} {n b n' d : Nat} (h : WldV w (.agg #[.int .i64 T, .int .i64 C, .slice A q c, .int .u64 R, .slice B n b, .slice C' n' d]) X) : WordsV w A q c X.ws := by
  obtain ⟨A2, q2, c2, B2, C2, b2, d2, e, hw, -⟩ := h
  simp only [Value.agg.injEq, Array.mk.injEq, List.cons.injEq, Value.slice.injEq, and_true] at e
  obtain ⟨-, -, ⟨rfl, rfl, rfl⟩, -⟩ := e
  exact hw
theorem nodup_len : ∀ (c : Nat) (l : List Int), l.Nodup → (∀ x ∈ l, 1 ≤ x ∧ x ≤ (c : Int)) → l.length ≤ c
  | 0, l, _, h => by
    cases l with
    | nil => simp
    | cons x l => have := h x (by simp); omega
  | c + 1, l, hd, h => by
    have h1 := nodup_len c (l.erase ((c : Int) + 1)) (hd.erase _) (fun x hx => by
      have hm := List.mem_of_mem_erase hx
      have hne : x ≠ (c : Int) + 1 := fun e => by subst e; exact (List.Nodup.not_mem_erase hd) hx
      have := h x hm
      omega)
    have h2 : l.length ≤ (l.erase ((c : Int) + 1)).length + 1 := by
      by_cases hm : ((c : Int) + 1) ∈ l
      · rw [List.length_erase_of_mem hm]; omega
      · rw [List.erase_of_not_mem hm]; omega
    omega
theorem PoolK.len {X : WldK} {t c : Nat} {pile : List Int} (h : PoolK X t c pile) : pile.length ≤ c := nodup_len c pile h.nodup h.chain.mem
set_option maxRecDepth 100000 in
set_option maxHeartbeats 4000000 in
theorem rfree_any (X : WldK) (t c : Nat) (pile : List Int) (h : PoolK X t c pile) (A : Option Addr) (q cc : Nat) (w : World) (hA : WordsV w A q cc X.ws) :
    Calls Try.prog 23 #[.agg #[.int .i64 X.T, .int .i64 X.C, .slice A q cc]] w fun e w' => ∃ v', e = .returned v' ∧ IntOwn w' w.heap.size v' pile.length pile ∧ Ext w w' := by
  obtain ⟨i0, hi0, hz0, hz1, hz2⟩ := info_parts info_i64
  have hr1 : ∀ (W : World) (a : Int), (Instr.buildSlice 35 1 #[(0, .int .i64 a)]).run Try.prog W = .ok (.slice (some ⟨W.heap.size, 0, none⟩) 1 1) (W.alloc (.cells #[.int .i64 a] 3)) := fun _ _ => by kernel_rfl
  have hq : q = memL t c := by rw [← h.dim.len, hA.len]
  have hlen := h.len
  have hT := h.dim.T
  have hC := h.dim.C
  have ht2 := h.dim.t2
  have hc2 := h.dim.c2
  have hch := h.chain
  have hU := h.dim.u
  have hlt1 : (1 : Int) < (q : Int) := by rw [hq]; unfold memL; omega
  have hq8 : 16 ≤ q ∨ True := .inr trivial
  have HQ := Lib.hid hq
  clear hq8
  have hne : wordsOf X.ws ≠ [] := fun e => by
    have := congrArg List.length e
    rw [wordsOf_length, hA.len, hq] at this
    unfold memL at this; simp at this
  obtain ⟨a, rfl, hcA⟩ := hA.cells hne
  have hcell : ∀ i : Nat, i < q → w.cell? (a.add i) = some (.int .u64 (X.at (i : Int))) := fun i hi => hcA i _ (by
    unfold wordsOf WldK.at
    rw [List.getElem?_map]
    have hi2 : i < X.ws.length := by rw [hA.len]; exact hi
    simp [List.getElem?_eq_getElem hi2, List.getD_eq_getElem?_getD])
  rw [hT, hC]
  clear hq
  have hW0 : Ext w (w.alloc (.cells #[.int .i64 t, .int .i64 c, .slice (some a) q cc] 45)) := (Below.refl _ w).alloc (Nat.le_refl _) _
  have hM := heap_alloc_new w (.cells #[.int .i64 t, .int .i64 c, .slice (some a) q cc] 45)
  go_enter Try.func23, Try.ntmps23
  go_upto_region 1 with (fail)
  generalize w.alloc (.cells #[.int .i64 t, .int .i64 c, .slice (some a) q cc] 45) = W0 at *
  obtain ⟨gm, hgm⟩ : ∃ gm, w.heap.size = gm := ⟨_, rfl⟩
  have hgm2 : w.heap.size ≤ gm := Nat.le_of_eq hgm
  rw [hgm] at hM
  simp only [hgm]
  clear hgm
  have hX : ∀ wx, Ext W0 wx → wx.cell? ⟨gm, 0, none⟩ = some (.int .i64 t) ∧ wx.cell? ⟨gm, 1, none⟩ = some (.int .i64 c) ∧ wx.cell? ⟨gm, 2, none⟩ = some (.slice (some a) q cc) ∧ ∀ i : Nat, i < q → wx.cell? (a.add i) = some (.int .u64 (X.at (i : Int))) := fun wx hx =>
    ⟨hx.cell (by simp [World.cell?, hM]), hx.cell (by simp [World.cell?, hM]), hx.cell (by simp [World.cell?, hM]), fun i hi => (hW0.trans hx).cell (hcell i hi)⟩
  have hlm : gm < W0.heap.size := (Array.getElem?_eq_some_iff.1 hM).1
  clear hM hcell hcA hA hT hC
  obtain ⟨z0, z1, z2, z3⟩ := hX W0 (Ext.refl _)
  have z4 := z3 1 (by omega)
  rw [show (((1 : Nat) : Int)) = 1 from rfl, show a.add 1 = ⟨a.block, a.off + 1, none⟩ from rfl] at z4
  go_wp2_with fail
  refine (rfirst_any _ (hU 1) _).mono ?_
  rintro e w' ⟨rfl, rfl⟩
  clear z0 z1 z2 z3 z4
  generalize hr0 : firstF (X.at 1) = r0 at *
  clear hr0
  have HP := Lib.hid h
  clear h
  go_wp2_with fail
  go_loopw [3, 4] (fun ov rv wr => ∃ (done rest : List Int) (r : Int), rv = .int .i64 r ∧ ChainW X t c rest r ∧ pile = done ++ rest ∧ IntOwn wr W0.heap.size ov done.length done ∧ Ext W0 wr) (fun ov _ _ => c + 1 - lenV ov)
  case atStart => exact ⟨[], pile, r0, rfl, hch, rfl, IntOwn.nil _ _, Ext.refl _⟩
  case round =>
    obtain ⟨done, rest, r, rfl, hcr, hpile, hown, hxr⟩ := hrel
    obtain ⟨z0, z1, z2, z3⟩ := hX _ hxr
    obtain ⟨B, cap, rfl, hB1, hB2, hB3, hB4, hB5⟩ := hown.form
    simp only [maxLen] at hB5
    have hdl : done.length + rest.length = pile.length := by rw [hpile, List.length_append]
    cases rest with
    | nil =>
      obtain rfl : r = 0 := hcr
      have hfin : IntOwn wr w.heap.size (.slice B done.length cap) pile.length pile := by
        have e : pile = done := by rw [hpile, List.append_nil]
        rw [e]
        refine ⟨hown.1, ?_⟩
        rcases hown.2 with h2 | ⟨g, cap, full, e, hb, h3⟩
        · exact .inl h2
        · exact .inr ⟨g, cap, full, e, Nat.le_trans hW0.size hb, h3⟩
      have HF := Lib.hid hfin
      clear hfin hown hB1 hB2 hB3 hX z3
      go_wp2
      go_ret
      exact ⟨_, rfl, HF.out, hW0.trans hxr⟩
    | cons x l =>
      obtain ⟨rfl, hx1, hxc, hcl⟩ := hcr
      have hpos : (0 : Int) < r := by omega
      have hlc : (done.length : Int) ≤ (c : Int) := by simp at hdl; omega
      have hlk1 := link_pos t hx1
      have hlk2 := link_in (t := t) hx1 hxc
      obtain ⟨k, hk⟩ : ∃ k : Nat, linkI t r = (k : Int) := ⟨(linkI t r).toNat, by omega⟩
      have hkq : k < q := by rw [HQ.out]; omega
      have hkI : (k : Int) < (q : Int) := by omega
      have hfield : ∀ W, Calls Try.prog 65 #[.int .i64 t, .int .i64 r, .int .i64 7] W fun e w' => e = .returned (.int .i64 (k : Int)) ∧ W = w' := fun W => by
        have := rfieldB_any t r (by omega) (by omega) (by omega) (by omega) W
        rw [hk] at this; exact this
      rw [hk] at hcl
      have hvU := hU (k : Int)
      have hWn : Ext wr (wr.alloc (.cells #[.int .i64 r] 3)) := (Below.refl _ wr).alloc (Nat.le_refl _) _
      have hcn : ∀ (i : Nat) (u : Value), (intCells [r])[i]? = some u → (wr.alloc (.cells #[.int .i64 r] 3)).cell? ((⟨wr.heap.size, 0, none⟩ : Addr).add i) = some u := heap_cells (heap_alloc_new wr _)
      have hown2 := hown.ext hWn
      have hsz := hxr.size
      clear z3 hB1 hB2 hB3
      go_upto_region 5 with (at_builtin; refine wpList_append_int rfl (.tmp 25) (.tmp 27) _ rfl W0.heap.size i0 Try.underlying35 hi0 hz0 hz1 hz2 _ done.length done rfl hown2 ⟨wr.heap.size, 0, none⟩ 1 1 [r] rfl (by intro _; omega) rfl hcn (by omega) (Nat.le_trans hsz hWn.size) ?_; intro v2 w5 hown5 hg5 hob5)
      have hxr5 : Ext W0 w5 := grownI_ext hown2 hg5 (hxr.trans hWn) (Nat.le_refl _)
      have hX5 : ∀ wx, Ext w5 wx → wx.cell? ⟨gm, 0, none⟩ = some (.int .i64 t) ∧ wx.cell? ⟨gm, 2, none⟩ = some (.slice (some a) q cc) ∧ wx.cell? (a.add k) = some (.int .u64 (X.at (k : Int))) := fun wx hx => by
        obtain ⟨y0, -, y2, y3⟩ := hX wx (hxr5.trans hx)
        exact ⟨y0, y2, y3 k hkq⟩
      have HX := Lib.hid hX
      generalize X.at (k : Int) = z at *
      have HCL := Lib.hid hcl
      have HPI := Lib.hid hpile
      clear hX hcl hpile hk hown hown2 hcn hg5 hob5 z0 z1 z2 hlk1 hlk2
      refine' wp_region_sure_all ⟨((some 29, [], none) :: (some 30, [0], none) :: (some 31, [], none) :: (some 32, [2], none) :: (some 33, [], none) :: (some 34, [3, 4], none) :: (some 35, [1, 5], none) :: (some 36, [6], none) :: (some 37, [7, 5], none) :: (some 4, [8, 8, 0, 1, 2, 3, 4, 5, 6, 7, 8], none) :: []), (0 :: 1 :: 0 :: 4 :: 0 :: 28 :: 63 :: 127 :: 255 :: 511 :: []), (true :: true :: true :: true :: true :: true :: true :: true :: true :: true :: []), [], 0⟩ 10 39 ((0, 29) :: (1, 30) :: (2, 31) :: (3, 32) :: (4, 33) :: (5, 34) :: (6, 35) :: (7, 36) :: (8, 37) :: (9, 4) :: []) ((0, 29) :: (1, 30) :: (2, 31) :: (3, 32) :: (4, 33) :: (5, 34) :: (6, 35) :: (7, 36) :: (8, 37) :: (9, 4) :: []) (.det _ :: .det _ :: .det _ :: .det _ :: .det _ :: .det _ :: .det _ :: .det _ :: .det _ :: .det _ :: []) (by kernel_rfl) (by kernel_rfl) (by kernel_rfl) rfl (by kernel_rfl) (by kernel_rfl) rfl (by kernel_rfl) ?hone ?hend
      case hone =>
        intro CS frS VS hCS ha hV
        have qs1 := slot_val (t := 1) ha rfl
        simp only [List.getElem_toArray, List.getElem_cons_succ, List.getElem_cons_zero] at qs1
        have qs4 := slot_val (t := 4) ha rfl
        simp only [List.getElem_toArray, List.getElem_cons_succ, List.getElem_cons_zero] at qs4
        have HCS := Lib.hid hCS
        have HVS := Lib.hid hV
        clear ha hCS hV
        -- 0: slot 29 := Op.fieldAddr 45 t1 2
        refine sure_det (js := []) (ts := [1]) (gd := none) (place_at HVS.out (k := 0) rfl) (by rw [HCS.out]; kernel_rfl) ?_ ?_
        · intro wx hx ρ hρ hs hf
          have hρc := hρ.const
          have hρf := hρ.func
          obtain ⟨fx1, -⟩ := hf
          rw [qs1] at fx1
          clear hs
          clear HCS HVS qs1 qs4
          refine run_plain ?_
          unfold runs
          go_simp
          exact detK.mk
        -- 1: slot 30 := Op.load 31 t29
        refine sure_det (js := [(0, 29)]) (ts := []) (gd := none) (place_at HVS.out (k := 1) rfl) (by rw [HCS.out]; kernel_rfl) ?_ ?_
        · intro wx hx ρ hρ hs hf
          have hρc := hρ.const
          have hρf := hρ.func
          obtain ⟨sn0, -⟩ := hs
          rw [place_at HVS.out (k := 0) rfl] at sn0
          replace sn0 : ρ (.tmp 29) = _ := sn0
          clear hf
          clear HCS HVS qs1 qs4
          refine run_plain ?_
          obtain ⟨p0, p1, p2⟩ := hX5 wx hx.drawn
          unfold runs
          go_simp
          exact detK.mk
        -- 2: slot 31 := Op.fieldAddr 45 t1 0
        refine sure_det (js := []) (ts := [1]) (gd := none) (place_at HVS.out (k := 2) rfl) (by rw [HCS.out]; kernel_rfl) ?_ ?_
        · intro wx hx ρ hρ hs hf
          have hρc := hρ.const
          have hρf := hρ.func
          obtain ⟨fx1, -⟩ := hf
          rw [qs1] at fx1
          clear hs
          clear HCS HVS qs1 qs4
          refine run_plain ?_
          unfold runs
          go_simp
          exact detK.mk
        -- 3: slot 32 := Op.load 3 t31
        refine sure_det (js := [(2, 31)]) (ts := []) (gd := none) (place_at HVS.out (k := 3) rfl) (by rw [HCS.out]; kernel_rfl) ?_ ?_
        · intro wx hx ρ hρ hs hf
          have hρc := hρ.const
          have hρf := hρ.func
          obtain ⟨sn2, -⟩ := hs
          rw [place_at HVS.out (k := 2) rfl] at sn2
          replace sn2 : ρ (.tmp 31) = _ := sn2
          clear hf
          clear HCS HVS qs1 qs4
          refine run_plain ?_
          obtain ⟨p0, p1, p2⟩ := hX5 wx hx.drawn
          unfold runs
          go_simp
          exact detK.mk
        -- 4: slot 33 := Op.move t4
        refine sure_det (js := []) (ts := [4]) (gd := none) (place_at HVS.out (k := 4) rfl) (by rw [HCS.out]; kernel_rfl) ?_ ?_
        · intro wx hx ρ hρ hs hf
          have hρc := hρ.const
          have hρf := hρ.func
          obtain ⟨fx4, -⟩ := hf
          rw [qs4] at fx4
          clear hs
          clear HCS HVS qs1 qs4
          refine run_plain ?_
          refine op_move rfl fx4 ?_
          exact detK.mk
        -- 5: slot 34 := Op.call { call ( 65), args := #[t32, t33, (i64 7)], argTypes := #[3, 3, 3] }
        refine sure_det (js := [(3, 32), (4, 33)]) (ts := []) (gd := none) (place_at HVS.out (k := 5) rfl) (by rw [HCS.out]; kernel_rfl) ?_ ?_
        · intro wx hx ρ hρ hs hf
          have hρc := hρ.const
          have hρf := hρ.func
          obtain ⟨sn3, sn4, -⟩ := hs
          rw [place_at HVS.out (k := 3) rfl] at sn3
          replace sn3 : ρ (.tmp 32) = _ := sn3
          rw [place_at HVS.out (k := 4) rfl] at sn4
          replace sn4 : ρ (.tmp 33) = _ := sn4
          clear hf
          clear HCS HVS qs1 qs4
          refine run_plain ?_
          refine op_call rfl hρ Try.call65 (map_three sn3 sn4 (hρ.const _)) ?_
          first | (refine Calls.mono (hfield _) ?_; rintro e w' ⟨rfl, rfl⟩; refine ⟨_, rfl, ?_⟩; exact detK.mk) | (refine Calls.mono (rfirst_any _ hvU _) ?_; rintro e w' ⟨rfl, rfl⟩; refine ⟨_, rfl, ?_⟩; exact detK.mk)
        -- 6: slot 35 := Op.indexAddr 31 t30 t34
        refine sure_det (js := [(1, 30), (5, 34)]) (ts := []) (gd := none) (place_at HVS.out (k := 6) rfl) (by rw [HCS.out]; kernel_rfl) ?_ ?_
        · intro wx hx ρ hρ hs hf
          have hρc := hρ.const
          have hρf := hρ.func
          obtain ⟨sn1, sn5, -⟩ := hs
          rw [place_at HVS.out (k := 1) rfl] at sn1
          replace sn1 : ρ (.tmp 30) = _ := sn1
          rw [place_at HVS.out (k := 5) rfl] at sn5
          replace sn5 : ρ (.tmp 34) = _ := sn5
          clear hf
          clear HCS HVS qs1 qs4
          refine run_plain ?_
          unfold runs
          go_simp
          exact detK.mk
        -- 7: slot 36 := Op.load 22 t35
        refine sure_det (js := [(6, 35)]) (ts := []) (gd := none) (place_at HVS.out (k := 7) rfl) (by rw [HCS.out]; kernel_rfl) ?_ ?_
        · intro wx hx ρ hρ hs hf
          have hρc := hρ.const
          have hρf := hρ.func
          obtain ⟨sn6, -⟩ := hs
          rw [place_at HVS.out (k := 6) rfl] at sn6
          replace sn6 : ρ (.tmp 35) = _ := sn6
          clear hf
          clear HCS HVS qs1 qs4
          refine run_plain ?_
          obtain ⟨p0, p1, p2⟩ := hX5 wx hx.drawn
          unfold runs
          go_simp
          exact detK.mk
        -- 8: slot 37 := Op.call { call ( 48), args := #[t36], argTypes := #[22] }
        refine sure_det (js := [(7, 36)]) (ts := []) (gd := none) (place_at HVS.out (k := 8) rfl) (by rw [HCS.out]; kernel_rfl) ?_ ?_
        · intro wx hx ρ hρ hs hf
          have hρc := hρ.const
          have hρf := hρ.func
          obtain ⟨sn7, -⟩ := hs
          rw [place_at HVS.out (k := 7) rfl] at sn7
          replace sn7 : ρ (.tmp 36) = _ := sn7
          clear hf
          clear HCS HVS qs1 qs4
          refine run_plain ?_
          refine op_call rfl hρ Try.call48 (map_one sn7) ?_
          first | (refine Calls.mono (hfield _) ?_; rintro e w' ⟨rfl, rfl⟩; refine ⟨_, rfl, ?_⟩; exact detK.mk) | (refine Calls.mono (rfirst_any _ hvU _) ?_; rintro e w' ⟨rfl, rfl⟩; refine ⟨_, rfl, ?_⟩; exact detK.mk)
        -- 9: slot 4 := Op.assign t37
        refine sure_det (js := [(8, 37)]) (ts := []) (gd := none) (place_at HVS.out (k := 9) rfl) (by rw [HCS.out]; kernel_rfl) ?_ ?_
        · intro wx hx ρ hρ hs hf
          have hρc := hρ.const
          have hρf := hρ.func
          obtain ⟨sn8, -⟩ := hs
          rw [place_at HVS.out (k := 8) rfl] at sn8
          replace sn8 : ρ (.tmp 37) = _ := sn8
          clear hf
          clear HCS HVS qs1 qs4
          refine run_plain ?_
          refine op_assign rfl sn8 ?_
          exact detK.mk
        exact trivial
      case hend =>
        intro xs wx hx hg
        have gk0 : xs 0 = _ := goods_get hg (i := 0) (j := 0) (d := 29) rfl
        have gk1 : xs 1 = _ := goods_get hg (i := 1) (j := 1) (d := 30) rfl
        have gk2 : xs 2 = _ := goods_get hg (i := 2) (j := 2) (d := 31) rfl
        have gk3 : xs 3 = _ := goods_get hg (i := 3) (j := 3) (d := 32) rfl
        have gk4 : xs 4 = _ := goods_get hg (i := 4) (j := 4) (d := 33) rfl
        have gk5 : xs 5 = _ := goods_get hg (i := 5) (j := 5) (d := 34) rfl
        have gk6 : xs 6 = _ := goods_get hg (i := 6) (j := 6) (d := 35) rfl
        have gk7 : xs 7 = _ := goods_get hg (i := 7) (j := 7) (d := 36) rfl
        have gk8 : xs 8 = _ := goods_get hg (i := 8) (j := 8) (d := 37) rfl
        have gk9 : xs 9 = _ := goods_get hg (i := 9) (j := 9) (d := 4) rfl
        clear hg
        simp only [putAll, gk0, gk1, gk2, gk3, gk4, gk5, gk6, gk7, gk8, gk9]
        clear gk0 gk1 gk2 gk3 gk4 gk5 gk6 gk7 gk8 gk9
        clear xs
        simp only [Act.put, List.setIfInBounds_toArray, List.set_cons_zero, List.set_cons_succ]
        go_wp2
        have hxe := hx.drawn
        go_roundw
        case rel => exact ⟨done ++ [r], l, firstF z, rfl, HCL.out, by rw [HPI.out]; simp, by simpa using hown5.ext hxe, hxr5.trans hxe⟩
        case measure => rw [hown5.lenV]; simp only [lenV]; simp at hdl; omega
end Go.Proofs.Ytkdjmfaodojmfaa

namespace Go.Proofs.Ytkdjmfaodojmfaa
open Go.RowKit

/-! What the laws of chapter 12 share. -/
theorem bytes_cell {w : World} {A : Option Addr} {n c : Nat} {l : List UInt8} (h : BytesV w A n c l) {i : Nat} (hi : i < n) : ∃ a z, A = some a ∧ w.cell? (a.add i) = some (.int .u8 (z : Nat)) ∧ z < 256 := by
  have hl : i < l.length := by rw [h.len]; exact hi
  obtain ⟨a, ha, hc⟩ := h.cells (fun e => by simp [bytesOf] at e; subst e; simp at hl)
  refine ⟨a, l[i].toNat, ha, hc i _ ?_, l[i].toNat_lt⟩
  simp [bytesOf, hl]
theorem WldV.word {w : World} {X : WldK} {T C : Int} {A : Option Addr} {q c : Nat} {R : Int} {B C' : Option Addr} {n b n' d : Nat} (h : WldV w (.agg #[.int .i64 T, .int .i64 C, .slice A q c, .int .u64 R, .slice B n b, .slice C' n' d]) X) (h2 : 2 ≤ X.ws.length) :
    ∃ a, A = some a ∧ q = X.ws.length ∧ ∀ i : Nat, i < q → w.cell? (a.add i) = some (.int .u64 (X.at (i : Int))) := by
  have hA := h.words
  have hne : wordsOf X.ws ≠ [] := fun e => by
    have := congrArg List.length e
    rw [wordsOf_length, List.length_nil] at this; omega
  obtain ⟨a, rfl, hc⟩ := hA.cells hne
  refine ⟨a, rfl, hA.len.symm, fun i hi => hc i _ ?_⟩
  unfold wordsOf WldK.at
  rw [List.getElem?_map]
  have hi2 : i < X.ws.length := by rw [hA.len]; exact hi
  simp [List.getElem?_eq_getElem hi2, List.getD_eq_getElem?_getD]
/-- what is free, and what is had: all records, each once -/
structure HK (N : Nat) (pile held : List Int) : Prop where
  nodup : (pile ++ held).Nodup
  rng : ∀ x ∈ held, 1 ≤ x ∧ x ≤ (N : Int)
  len : pile.length + held.length = N
theorem HK.new (N : Nat) : HK N (upFrom 1 N) [] := ⟨by rw [List.append_nil]; exact upFrom_nodup _ _, by simp, by
  have : ∀ n r, (upFrom r n).length = n := fun n => by
    induction n with
    | zero => intro r; rfl
    | succ n ih => intro r; simp [upFrom, ih]
  simp [this]⟩
theorem HK.pop {N : Nat} {x : Int} {l held : List Int} (h : HK N (x :: l) held) (hx : 1 ≤ x ∧ x ≤ (N : Int)) : HK N l (held ++ [x]) := by
  have hn : (l ++ (held ++ [x])).Nodup := by
    have h1 : (x :: (l ++ held)).Nodup := h.nodup
    rw [List.nodup_cons] at h1
    rw [← List.append_assoc, List.nodup_append]
    refine ⟨h1.2, by simp, fun a ha b hb => ?_⟩
    rw [List.mem_singleton] at hb
    intro e; subst e; subst hb; exact h1.1 ha
  refine ⟨hn, fun y hy => ?_, by have := h.len; simp at this ⊢; omega⟩
  rcases List.mem_append.1 hy with hy | hy
  · exact h.rng y hy
  · rw [List.mem_singleton.1 hy]; exact hx
/-- one that is had is given back -/
theorem HK.push {N : Nat} {x : Int} {pile h1 h2 : List Int} (h : HK N pile (h1 ++ x :: h2)) : HK N (x :: pile) (h1 ++ h2) ∧ x ∉ pile ∧ 1 ≤ x ∧ x ≤ (N : Int) := by
  have hr := h.rng x (by simp)
  have hn := h.nodup
  rw [List.nodup_append] at hn
  obtain ⟨n1, n2, n3⟩ := hn
  have n2' := n2
  rw [List.nodup_append] at n2
  obtain ⟨m1, m2, m3⟩ := n2
  rw [List.nodup_cons] at m2
  have hx : x ∉ pile := fun hm => n3 x hm x (by simp) rfl
  refine ⟨⟨?_, fun y hy => h.rng y ?_, by have := h.len; simp at this ⊢; omega⟩, hx, hr.1, hr.2⟩
  · rw [List.cons_append, List.nodup_cons]
    refine ⟨fun hm => ?_, ?_⟩
    · rcases List.mem_append.1 hm with hm | hm
      · exact hx hm
      · rcases List.mem_append.1 hm with hm | hm
        · exact m3 x hm x (by simp) rfl
        · exact m2.1 hm
    · rw [List.nodup_append, List.nodup_append]
      refine ⟨n1, ⟨m1, m2.2, fun a ha b hb => m3 a ha b (by simp [hb])⟩, fun a ha b hb => n3 a ha b ?_⟩
      rcases List.mem_append.1 hb with hb | hb
      · simp [hb]
      · simp [hb]
  · rcases List.mem_append.1 hy with hy | hy
    · simp [hy]
    · simp [hy]
theorem last_split {l : List Int} (h : 0 < l.length) : ∃ x, l = l.dropLast ++ [x] ∧ l[l.length - 1]? = some x := by
  have hne : l ≠ [] := fun e => by subst e; simp at h
  refine ⟨l.getLast hne, (List.dropLast_concat_getLast hne).symm, ?_⟩
  rw [List.getLast_eq_getElem, List.getElem?_eq_getElem]
end Go.Proofs.Ytkdjmfaodojmfaa

namespace Go.Proofs.Ytkdjmfaodojmfaa
open Go.RowKit

/-! A row of ints that is copied into one of the region's own: append(append([]int{}, l[:k]...), l[k+1:]...) in a region that draws. -/
theorem IntOwn.base_le {w : World} {b b' : Nat} {v : Value} {n : Nat} {l : List Int} (h : IntOwn w b v n l) (hb : b' ≤ b) : IntOwn w b' v n l := by
  refine ⟨h.1, ?_⟩
  rcases h.2 with h2 | ⟨g, cap, full, e, hg, h3⟩
  · exact .inl h2
  · exact .inr ⟨g, cap, full, e, Nat.le_trans hb hg, h3⟩
def IntSome (w : World) (base : Nat) (v : Value) (n : Nat) (l : List Int) : Prop := IntOwn w base v n l ∧ v.ownBlock ≠ none
theorem IntSome.ext {w w' : World} {base : Nat} {v : Value} {n : Nat} {l : List Int} (h : IntSome w base v n l) (hx : Ext w w') : IntSome w' base v n l := ⟨h.1.ext hx, h.2⟩
theorem int0_some (w : World) (base : Nat) (hb : base ≤ w.heap.size) : IntSome (w.alloc (.cells #[] 3)) base (.slice (some ⟨w.heap.size, 0, none⟩) 0 0) 0 [] :=
  ⟨⟨rfl, .inr ⟨w.heap.size, 0, [], rfl, hb, heap_alloc_new w _, Nat.le_refl _, Nat.zero_le _, rfl, rfl⟩⟩, by simp [Value.ownBlock]⟩
theorem grownI_wild {w w' : World} {base : Nat} {v : Value} {n : Nat} {l : List Int} (h : IntOwn w base v n l) (hg : w.grownBy w' v.ownBlock) (hb : base ≤ w.heap.size) : Below base w w' ∧ WildR 3 w w' := by
  refine ⟨⟨hg.os, hg.tape, hg.output, hg.size, fun k hk => ?_⟩, hg.size, fun g c T fr hc hT => ?_⟩
  · exact hg.block k (by omega) (fun e => h.low hk e.symm)
  · exact grownI_heap h hg (h.ne_box hc hT) hc
theorem run_append_some {P : Program} {w : World} (base : Nat) (t ty : TypeId) (i : TypeInfo) (ht : P.underlying t = some (.slice 3)) (hi : P.info? 3 = some i) (hz : i.zero = some (.int .i64 0)) (hsize : i.size = 1) (hby : i.bytes = 8)
    (v : Value) (n : Nat) (l : List Int) (hown : IntSome w base v n l) (a : Addr) (m c : Nat) (l2 : List Int) (hm : l2.length = m) (hnews : ∀ j u, (intCells l2)[j]? = some u → w.cell? (a.add j) = some u) (hn : n + m ≤ 1000000) (hbase : base ≤ w.heap.size) :
    ∃ v' w', (Builtin.append_ #[t, t] ty #[v, .slice (some a) m c]).run P w = .ok v' w' ∧ IntSome w' base v' (n + m) (l ++ l2) ∧ Below base w w' ∧ WildR 3 w w' := by
  obtain ⟨v', w', hr, h1, h2, h3⟩ := run_append_int (P := P) base t ty i ht hi hz hsize hby v n l hown.1 a m c l2 hm (fun e => absurd (by rw [e]; rfl) hown.2) hnews hn hbase
  refine ⟨v', w', hr, ⟨h1, ?_⟩, grownI_wild hown.1 h2 hbase⟩
  rcases h3 with h3 | h3
  · rw [h3]; exact hown.2
  · rw [h3]; simp
theorem IntOwn.cut {w : World} {base : Nat} {v : Value} {n : Nat} {l : List Int} (h : IntOwn w base v n l) {k : Nat} {x : Int} (hk : l[k]? = some x) : ∃ g c, v = .slice (some ⟨g, 0, none⟩) n c ∧ base ≤ g ∧ n ≤ c ∧ c ≤ maxLen ∧ w.cell? ⟨g, k, none⟩ = some (.int .i64 x) ∧
    ∀ w', Ext w w' → (∀ (j : Nat) (u : Value), (intCells (l.take k))[j]? = some u → w'.cell? ((⟨g, 0, none⟩ : Addr).add j) = some u) ∧ (∀ (j : Nat) (u : Value), (intCells (l.drop (k + 1)))[j]? = some u → w'.cell? ((⟨g, k + 1, none⟩ : Addr).add j) = some u) := by
  obtain ⟨g, c, e, hb, h1, h2, h3⟩ := h.at hk
  refine ⟨g, c, e, hb, h1, h2, h3, fun w' hx => ?_⟩
  obtain ⟨B, c', e', hC, -⟩ := h.form
  rw [e] at e'
  cases e'
  obtain ⟨a, ha, hc⟩ := hC (fun e2 => by
    have := (List.getElem?_eq_some_iff.1 hk).1
    have h4 := intCells_length l
    rw [e2] at h4; simp at h4; omega)
  cases ha
  refine ⟨fun j u hj => ?_, fun j u hj => ?_⟩
  · rw [← intCells_take, List.getElem?_take] at hj
    split at hj
    · exact hx.cell (hc j u hj)
    · cases hj
  · rw [← intCells_drop, List.getElem?_drop] at hj
    have := hx.cell (hc (k + 1 + j) u hj)
    rw [show ((⟨g, k + 1, none⟩ : Addr).add j) = ((⟨g, 0, none⟩ : Addr).add (k + 1 + j)) by simp [Addr.add]]
    exact this
theorem list_cut {l : List Int} {k : Nat} {x : Int} (h : l[k]? = some x) : l = l.take k ++ x :: l.drop (k + 1) := by
  have hk := (List.getElem?_eq_some_iff.1 h).1
  have hx : l[k] = x := (List.getElem?_eq_some_iff.1 h).2
  rw [← hx, List.getElem_cons_drop, List.take_append_drop]
theorem cut_len {l : List Int} {k : Nat} (h : k < l.length) : (l.take k).length = k ∧ (l.drop (k + 1)).length = l.length - (k + 1) ∧ (l.take k ++ l.drop (k + 1)).length = l.length - 1 := by
  simp; omega
theorem cut_addr {wr : World} {g k n c kr : Nat} {l : List Int} (h : ∀ w', Ext wr w' → (∀ (j : Nat) (u : Value), (intCells (l.take k))[j]? = some u → w'.cell? ((⟨g, 0, none⟩ : Addr).add j) = some u) ∧ (∀ (j : Nat) (u : Value), (intCells (l.drop (k + 1)))[j]? = some u → w'.cell? ((⟨g, k + 1, none⟩ : Addr).add j) = some u))
    (hl : (l.drop (k + 1)).length = kr) (hr : kr = n - (k + 1)) (hn : n ≤ c) : ∃ ka, ((c = k + 1 ∧ ka = 0) ∨ (¬ c = k + 1 ∧ ka = k + 1)) ∧ ∀ w', Ext wr w' → (∀ (j : Nat) (u : Value), (intCells (l.take k))[j]? = some u → w'.cell? ((⟨g, 0, none⟩ : Addr).add j) = some u) ∧ (∀ (j : Nat) (u : Value), (intCells (l.drop (k + 1)))[j]? = some u → w'.cell? ((⟨g, ka, none⟩ : Addr).add j) = some u) := by
  by_cases hc : c = k + 1
  · refine ⟨0, .inl ⟨hc, rfl⟩, fun w' hx => ⟨(h w' hx).1, fun j u hj => ?_⟩⟩
    have e : l.drop (k + 1) = [] := List.eq_nil_of_length_eq_zero (by omega)
    rw [e] at hj; simp [intCells] at hj
  · exact ⟨k + 1, .inr ⟨hc, rfl⟩, h⟩
end Go.Proofs.Ytkdjmfaodojmfaa
