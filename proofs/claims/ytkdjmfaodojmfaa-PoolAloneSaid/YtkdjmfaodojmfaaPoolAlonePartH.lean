import Derived.Test.YtkdjmfaodojmfaaPoolAlonePartG
import Derived.Test.YtkdjmfaodojmfaaChecked
import Derived.Test.YtkdjmfaodojmfaaPoolAlonePartF
import Derived.WalkKit
import Derived.Below
import Derived.Outline
import Derived.ScopeJumps
import Derived.WalkMore
import Derived.Test.YtkdjmfaodojmfaaPoolAlonePartA
import Derived.Tactics
import Derived.Lib.Hide
import Derived.Test.YtkdjmfaodojmfaaPoolAlonePartB
import Derived.Test.YtkdjmfaodojmfaaPoolAlonePartC
namespace Go.Proofs.Ytkdjmfaodojmfaa
open Go.RowKit

/-! play.Load, .. of what a program is handed by play.Run. -/
theorem load_nx (gA gL m : Nat) (i : Int) (r : Res) (rs : List Res) (w : World) (h : DoAt m w gA gL (r :: rs)) :
    Calls Try.prog 98 #[doV gA gL, .int .i64 i] w fun e w' => e = .returned (.int .u64 r.n) ∧ DoAt m w' gA gL rs ∧ ExtB gA w w' :=
  pload_next 132 _ _ i r.n (fun w' => DoAt m w' gA gL rs ∧ ExtB gA w w') w Try.call132 ((do_next _ _ _ _ _ _ gA gL r rs m w h).mono fun e w' ⟨he, h1, h2⟩ => ⟨r.A, r.k, r.c, r.fail, he, h1, h2⟩)
theorem load_st (gA gL m : Nat) (i : Int) (w : World) (h : DoAt m w gA gL []) :
    Calls Try.prog 98 #[doV gA gL, .int .i64 i] w fun e w' => e = needP #[.int .i64 0, .int .i64 i, .int .u64 0, .int .u64 0, .slice none 0 0, .slice none 0 0] ∧ Ext w w' :=
  pload_stop 132 _ _ i _ (fun w' => Ext w w') w Try.call132 ((do_stop _ _ _ _ _ _ gA gL m w h).mono fun e w' h => h)
theorem store_nx (gA gL m : Nat) (i a : Int) (r : Res) (rs : List Res) (w : World) (h : DoAt m w gA gL (r :: rs)) :
    Calls Try.prog 97 #[doV gA gL, .int .i64 i, .int .u64 a] w fun e w' => e = .returned (.tuple #[]) ∧ DoAt m w' gA gL rs ∧ ExtB gA w w' :=
  pstore_next 132 _ _ i a r.n (fun w' => DoAt m w' gA gL rs ∧ ExtB gA w w') w Try.call132 ((do_next _ _ _ _ _ _ gA gL r rs m w h).mono fun e w' ⟨he, h1, h2⟩ => ⟨r.A, r.k, r.c, r.fail, he, h1, h2⟩)
theorem store_st (gA gL m : Nat) (i a : Int) (w : World) (h : DoAt m w gA gL []) :
    Calls Try.prog 97 #[doV gA gL, .int .i64 i, .int .u64 a] w fun e w' => e = needP #[.int .i64 1, .int .i64 i, .int .u64 a, .int .u64 0, .slice none 0 0, .slice none 0 0] ∧ Ext w w' :=
  pstore_stop 132 _ _ i a _ (fun w' => Ext w w') w Try.call132 ((do_stop _ _ _ _ _ _ gA gL m w h).mono fun e w' h => h)
theorem cas_nx (gA gL m : Nat) (i a b : Int) (r : Res) (rs : List Res) (w : World) (h : DoAt m w gA gL (r :: rs)) :
    Calls Try.prog 99 #[doV gA gL, .int .i64 i, .int .u64 a, .int .u64 b] w fun e w' => e = .returned (.bool (r.n == 1)) ∧ DoAt m w' gA gL rs ∧ ExtB gA w w' :=
  pcas_next 132 _ _ i a b r.n (fun w' => DoAt m w' gA gL rs ∧ ExtB gA w w') w Try.call132 ((do_next _ _ _ _ _ _ gA gL r rs m w h).mono fun e w' ⟨he, h1, h2⟩ => ⟨r.A, r.k, r.c, r.fail, he, h1, h2⟩)
theorem cas_st (gA gL m : Nat) (i a b : Int) (w : World) (h : DoAt m w gA gL []) :
    Calls Try.prog 99 #[doV gA gL, .int .i64 i, .int .u64 a, .int .u64 b] w fun e w' => e = needP #[.int .i64 2, .int .i64 i, .int .u64 a, .int .u64 b, .slice none 0 0, .slice none 0 0] ∧ Ext w w' :=
  pcas_stop 132 _ _ i a b _ (fun w' => Ext w w') w Try.call132 ((do_stop _ _ _ _ _ _ gA gL m w h).mono fun e w' h => h)
theorem add_nx (gA gL m : Nat) (i a : Int) (r : Res) (rs : List Res) (w : World) (h : DoAt m w gA gL (r :: rs)) :
    Calls Try.prog 100 #[doV gA gL, .int .i64 i, .int .u64 a] w fun e w' => e = .returned (.int .u64 r.n) ∧ DoAt m w' gA gL rs ∧ ExtB gA w w' :=
  padd_next 132 _ _ i a r.n (fun w' => DoAt m w' gA gL rs ∧ ExtB gA w w') w Try.call132 ((do_next _ _ _ _ _ _ gA gL r rs m w h).mono fun e w' ⟨he, h1, h2⟩ => ⟨r.A, r.k, r.c, r.fail, he, h1, h2⟩)
theorem add_st (gA gL m : Nat) (i a : Int) (w : World) (h : DoAt m w gA gL []) :
    Calls Try.prog 100 #[doV gA gL, .int .i64 i, .int .u64 a] w fun e w' => e = needP #[.int .i64 3, .int .i64 i, .int .u64 a, .int .u64 0, .slice none 0 0, .slice none 0 0] ∧ Ext w w' :=
  padd_stop 132 _ _ i a _ (fun w' => Ext w w') w Try.call132 ((do_stop _ _ _ _ _ _ gA gL m w h).mono fun e w' h => h)
theorem swap_nx (gA gL m : Nat) (i a : Int) (r : Res) (rs : List Res) (w : World) (h : DoAt m w gA gL (r :: rs)) :
    Calls Try.prog 101 #[doV gA gL, .int .i64 i, .int .u64 a] w fun e w' => e = .returned (.int .u64 r.n) ∧ DoAt m w' gA gL rs ∧ ExtB gA w w' :=
  pswap_next 132 _ _ i a r.n (fun w' => DoAt m w' gA gL rs ∧ ExtB gA w w') w Try.call132 ((do_next _ _ _ _ _ _ gA gL r rs m w h).mono fun e w' ⟨he, h1, h2⟩ => ⟨r.A, r.k, r.c, r.fail, he, h1, h2⟩)
theorem swap_st (gA gL m : Nat) (i a : Int) (w : World) (h : DoAt m w gA gL []) :
    Calls Try.prog 101 #[doV gA gL, .int .i64 i, .int .u64 a] w fun e w' => e = needP #[.int .i64 4, .int .i64 i, .int .u64 a, .int .u64 0, .slice none 0 0, .slice none 0 0] ∧ Ext w w' :=
  pswap_stop 132 _ _ i a _ (fun w' => Ext w w') w Try.call132 ((do_stop _ _ _ _ _ _ gA gL m w h).mono fun e w' h => h)
end Go.Proofs.Ytkdjmfaodojmfaa

namespace Go.Proofs.Ytkdjmfaodojmfaa
open Go.RowKit

/-! What the words are, as numbers. -/
theorem link_any (r : Int) (m : Bool) (w : World) :
    Calls Try.prog 33 #[.int .i64 r, .bool m] w fun e w' => e = .returned (.int .u64 (linkF r m)) ∧ w = w' := by
  cases m
  · go_enter Try.func33, Try.ntmps33
    go_wp2
    go_ret
    exact ⟨ret_int (by simp [linkF]), rfl⟩
  · go_enter Try.func33, Try.ntmps33
    go_wp2
    go_ret
    refine ⟨ret_int ?_, rfl⟩
    show bits BinOp.or IntKind.u64 (IntKind.u64.wrap (IntKind.u64.wrap r * 2)) 1 = _
    rw [or_1 _ (u64_wrap _) (by rw [IntKind.wrap_u64]; omega)]; simp [linkF]
theorem ref_any (n : Int) (h : U64 n) (w : World) :
    Calls Try.prog 35 #[.int .u64 n] w fun e w' => e = .returned (.int .i64 (refF n)) ∧ w = w' := by
  go_enter Try.func35, Try.ntmps35
  go_wp2
  go_ret
  refine ⟨ret_int ?_, rfl⟩
  show wrap64 (bits .and .u64 (n / 2) 1048575) = _
  rw [and_20 _ ⟨by have := h.1; omega, by have := h.1; have := h.2; omega⟩, wrap64_small _ (by omega) (by omega)]; rfl
theorem mark_any (n : Int) (h : U64 n) (w : World) :
    Calls Try.prog 37 #[.int .u64 n] w fun e w' => e = .returned (.bool (markF n)) ∧ w = w' := by
  go_enter Try.func37, Try.ntmps37
  go_wp2
  go_ret
  refine ⟨ret_bool ?_, rfl⟩
  show (bits .and .u64 n 1 == 1) = _
  rw [and_1 _ h]; rfl
theorem flag_any (s b : Int) (w : World) :
    Calls Try.prog 39 #[.int .u64 s, .int .i64 b] w fun e w' => e = .returned (.int .u64 (flagF s b)) ∧ w = w' := by
  go_enter Try.func39, Try.ntmps39
  go_wp2
  go_ret
  refine ⟨ret_int ?_, rfl⟩
  show bits .or .u64 (IntKind.u64.wrap (s * 4)) (bits .and .u64 (IntKind.u64.wrap b) 3) = _
  rw [and_3 _ (u64_wrap _), wrap_u64_mod b 4 rfl (by omega), or_2 _ _ (u64_wrap _) (by rw [IntKind.wrap_u64]; omega) (by omega) (by omega)]; rfl
theorem stamp_any (n : Int) (w : World) :
    Calls Try.prog 41 #[.int .u64 n] w fun e w' => e = .returned (.int .u64 (stampF n)) ∧ w = w' := by
  go_enter Try.func41, Try.ntmps41
  go_wp2
  go_ret
  exact ⟨rfl, rfl⟩
theorem has_any (n b : Int) (h : U64 n) (w : World) :
    Calls Try.prog 43 #[.int .u64 n, .int .i64 b] w fun e w' => e = .returned (.bool (hasF n b)) ∧ w = w' := by
  go_enter Try.func43, Try.ntmps43
  go_wp2
  go_ret
  refine ⟨ret_bool ?_, rfl⟩
  show (bits .and .u64 n (bits .and .u64 (IntKind.u64.wrap b) 3) == bits .and .u64 (IntKind.u64.wrap b) 3) = _
  rw [and_3 _ (u64_wrap _), wrap_u64_mod b 4 rfl (by omega), and_has _ _ h (by omega) (by omega)]; rfl
theorem first_any (n : Int) (h : U64 n) (w : World) :
    Calls Try.prog 47 #[.int .u64 n] w fun e w' => e = .returned (.int .i64 (firstF n)) ∧ w = w' := by
  go_enter Try.func47, Try.ntmps47
  go_wp2
  go_ret
  refine ⟨ret_int ?_, rfl⟩
  show wrap64 (bits .and .u64 n 1048575) = _
  rw [and_20 _ h, wrap64_small _ (by omega) (by omega)]; rfl
theorem tag_any (n : Int) (w : World) :
    Calls Try.prog 49 #[.int .u64 n] w fun e w' => e = .returned (.int .u64 (tagF n)) ∧ w = w' := by
  go_enter Try.func49, Try.ntmps49
  go_wp2
  go_ret
  exact ⟨rfl, rfl⟩
theorem ends_any (u v : Int) (w : World) :
    Calls Try.prog 50 #[.int .i64 u, .int .i64 v] w fun e w' => e = .returned (.int .u64 (endsF u v)) ∧ w = w' := by
  go_enter Try.func50, Try.ntmps50
  go_wp2
  go_ret
  exact ⟨rfl, rfl⟩
theorem pair_any (n : Int) (h : U64 n) (w : World) :
    Calls Try.prog 31 #[.int .u64 n] w fun e w' => e = .returned (.tuple #[.int .i64 (firstF n), .int .i64 (firstF (tagF n))]) ∧ w = w' := by
  go_enter Try.func31, Try.ntmps31
  go_wp2
  go_ret2
  refine ⟨?_, rfl⟩
  show Ending.returned (.tuple #[.int .i64 (wrap64 (bits .and .u64 n 1048575)), .int .i64 (wrap64 (bits .and .u64 (n / 1048576) 1048575))]) = _
  rw [and_20 _ h, and_20 _ ⟨by have := h.1; omega, by have := h.1; have := h.2; omega⟩, wrap64_small _ (by omega) (by omega), wrap64_small _ (by omega) (by omega)]; rfl
end Go.Proofs.Ytkdjmfaodojmfaa

namespace Go.Proofs.Ytkdjmfaodojmfaa
open Go.RowKit

/-! pool.Pop, pool.Push of what a program is handed. -/
def doneAt (gA : Nat) (w : World) : Nat := match w.cell? ⟨gA, 0, none⟩ with | some (.int _ i) => i.toNat | _ => 0
theorem doneAt_of {gA : Nat} {w : World} {i : Nat} {T : TypeId} {fr : Nat × Nat} (h : w.heap[gA]? = some (.cells #[.int .i64 (i : Int)] T fr)) : doneAt gA w = i := by
  have h1 : w.cell? ⟨gA, 0, none⟩ = some (.int .i64 (i : Int)) := by simp [World.cell?, h]
  unfold doneAt; rw [h1]; simp
theorem DoAt.done {m : Nat} {w : World} {gA gL : Nat} {rs : List Res} (h : DoAt m w gA gL rs) : doneAt gA w + rs.length ≤ 65536 := by
  obtain ⟨i, n, c, A, fr, h1, h2, h3, h4, h5, h6⟩ := h
  rw [doneAt_of h1]; omega
theorem DoAt.less {m m' : Nat} {w w' : World} {gA gL : Nat} {rs rs' : List Res} (h : DoAt m w gA gL rs) (h' : DoAt m' w' gA gL rs') (hx : ExtB gA w w') (hl : rs'.length < rs.length) : doneAt gA w < doneAt gA w' := by
  obtain ⟨i, n, c, A, fr, h1, h2, h3, h4, h5, h6⟩ := h
  obtain ⟨i', n', c', A', fr', g1, g2, g3, g4, g5, g6⟩ := h'
  have e := hx.heap h2 (fun e => h5 e.symm)
  rw [g2] at e
  simp only [Option.some.injEq, Obj.cells.injEq, Array.mk.injEq, List.cons.injEq, Value.slice.injEq, and_true] at e
  obtain ⟨⟨-, rfl, -⟩, -⟩ := e
  rw [doneAt_of h1, doneAt_of g1]; omega
theorem firstF_rng {n : Int} (h : U64 n) : 0 ≤ firstF n ∧ firstF n < 1048576 := by unfold firstF; omega
theorem tagF_rng {n : Int} (h : U64 n) : U64 (tagF n) := by have h1 := h.1; have h2 := h.2; unfold tagF U64; omega
theorem topN_rng (r w : Int) : U64 (topN r w) := top_u64 _ _
theorem fieldB_any (t r : Int) (h1 : 0 ≤ t) (h2 : t ≤ 64) (h3 : 0 ≤ r) (h4 : r ≤ 1048576) (w : World) :
    Calls Try.prog 64 #[.int .i64 t, .int .i64 r, .int .i64 7] w fun e w' => e = .returned (.int .i64 (linkI t r)) ∧ w = w' :=
  (field_any t r 7 (by omega) (by omega) (by omega) (by omega) (by omega) (by omega) w).mono fun _ _ ⟨he, hw⟩ => ⟨by rw [he]; rfl, hw⟩
/-- what a part of a program does with what is left of a log -/
def ProgP (E : ProgE) (m gA gL : Nat) (rs : List Res) (w : World) (v : Int → Value) (e : Ending) (w' : World) : Prop :=
  match E with
  | .stop x => e = needP x.cells ∧ ExtB gA w w'
  | .ret r k => e = .returned (v r) ∧ DoAt m w' gA gL (rs.drop k) ∧ ExtB gA w w'
def GoodR (rs : List Res) : Prop := ∀ r ∈ rs, U64 r.n
theorem GoodR.drop {rs : List Res} (h : GoodR rs) (k : Nat) : GoodR (rs.drop k) := fun r hr => h r (List.mem_of_mem_drop hr)
end Go.Proofs.Ytkdjmfaodojmfaa

namespace Go.Proofs.Ytkdjmfaodojmfaa
open Go.RowKit

/-! What 'alone' needs of worlds and logs. -/
theorem boxes4n (w : World) (o0 o1 o2 o3 : Obj) :
    Ext w ((((w.alloc o0).alloc o1).alloc o2).alloc o3) ∧ ((((w.alloc o0).alloc o1).alloc o2).alloc o3).heap[w.heap.size]? = some o0 ∧ ((((w.alloc o0).alloc o1).alloc o2).alloc o3).heap[w.heap.size + 1]? = some o1 ∧
      ((((w.alloc o0).alloc o1).alloc o2).alloc o3).heap[w.heap.size + 1 + 1]? = some o2 ∧ ((((w.alloc o0).alloc o1).alloc o2).alloc o3).heap[w.heap.size + 1 + 1 + 1]? = some o3 := by
  obtain ⟨h, h0, h1⟩ := two_boxes7 w o0 o1
  obtain ⟨k, k0, k1⟩ := two_boxes7 ((w.alloc o0).alloc o1) o2 o3
  have e : ((w.alloc o0).alloc o1).heap.size = w.heap.size + 1 + 1 := by simp
  rw [e] at k0 k1
  exact ⟨h.trans k, heap_ext h0 k, heap_ext h1 k, k0, k1⟩
def WOk (X : WldK) : Prop := Fit X 0 ∧ (∀ i : Int, U64 (X.at i)) ∧ 2 ≤ X.ws.length
theorem GoodR.u64s {rs : List Res} (h : GoodR rs) : U64s (rs.map Res.n) := fun n hn => by
  obtain ⟨r, hr, rfl⟩ := List.mem_map.1 hn
  exact h r hr
theorem GoodR.snoc {rs : List Res} {r : Res} (h : GoodR rs) (hr : U64 r.n) : GoodR (rs ++ [r]) := fun q hq => by
  rcases List.mem_append.1 hq with hq | hq
  · exact h q hq
  · rw [List.mem_singleton.1 hq]; exact hr
theorem put_u {X : WldK} {i a : Int} (h : ∀ j : Int, U64 (X.at j)) (ha : U64 a) : ∀ j : Int, U64 ((X.put i a).at j) := fun j => by
  by_cases e : j.toNat = i.toNat
  · by_cases hl : i.toNat < X.ws.length
    · have : (X.put i a).at j = (X.put i a).at i := by unfold WldK.at; rw [e]
      rw [this, at_put_same hl]; exact ha
    · have : X.put i a = X := by unfold WldK.put; rw [List.set_eq_of_length_le (by omega)]
      rw [this]; exact h j
  · rw [at_put_other e]; exact h j
theorem turnX_u {k o a b : Int} (ho : U64 o) (ha : U64 a) (hb : U64 b) : U64 (turnX k o a b) := by
  unfold turnX
  repeat' split
  · exact ha
  · exact hb
  · exact ho
  · unfold U64; omega
  · exact ha
  · exact ho
theorem turnN_u {k o a : Int} (ho : U64 o) : U64 (turnN k o a) := by
  unfold turnN
  repeat' split
  · exact ho
  · unfold U64; omega
  · unfold U64; omega
  · exact ho
  · exact ho
  · exact u64_zero
theorem WOk.step {X : WldK} (h : WOk X) (me : Int) {x : Ask} (hx : x.Ok) : WOk (doK X me x.K false) ∧ U64 (doR X x.K false).N ∧ (doK X me x.K false).T = X.T ∧ (doK X me x.K false).C = X.C := by
  have hw : Fit (doK X me x.K false) 0 := h.1.word (A := x.K) hx.1 hx.2.1
  rw [doK_word (A := x.K) hx.1 hx.2.1] at hw ⊢
  rw [doR_word (A := x.K) hx.1 hx.2.1]
  refine ⟨⟨hw, ?_, by simp only; rw [wordsK_length]; exact h.2.2⟩, ?_, rfl, rfl⟩
  · by_cases hin : inW X.ws.length x.K = true
    · have e : ({ X with ws := wordsK X.ws x.K } : WldK) = X.put x.cell (turnX x.kind (X.at x.cell) x.a x.b) := by
        rw [wordsK_in hin]; rfl
      rw [e]
      exact put_u h.2.1 (turnX_u (h.2.1 _) hx.2.2.1 hx.2.2.2)
    · rw [wordsK_out (by simpa using hin)]; exact h.2.1
  · by_cases hin : inW X.ws.length x.K = true
    · rw [wordsR, hin]; exact turnN_u (h.2.1 x.cell)
    · rw [wordsR]; simp only [hin, if_false, Bool.false_eq_true]; exact u64_zero
end Go.Proofs.Ytkdjmfaodojmfaa

namespace Go.Proofs.Ytkdjmfaodojmfaa
open Go.RowKit

theorem ExtB.setAll {gw g : Nat} {w w' : World} (h : ExtB gw w w') (vs : List Value) (hg : g = gw ∨ w.heap.size ≤ g) : ∀ i, ExtB gw w (setAll g i vs w') := by
  induction vs generalizing w' with
  | nil => exact fun _ => h
  | cons u vs ih =>
    intro i
    refine ih ?_ (i + 1)
    rcases hg with rfl | hg
    · exact h.set i u
    · exact ⟨h.os, h.tape, h.output, by simpa [World.setCell] using h.size, fun k hk hne => (Below.heap_setCell _ _ _ _ (by simp; omega)).trans (h.block k hk hne)⟩
end Go.Proofs.Ytkdjmfaodojmfaa

namespace Go.Proofs.Ytkdjmfaodojmfaa
open Go.RowKit

set_option maxRecDepth 100000 in
set_option maxHeartbeats 8000000 in
/-- wealdlaw12.alone, of whatever Next answers -/
theorem palone_any (P : List Int → NextE) (X : WldK) (wv : Value) (me k u v d : Int) (most : Nat) (hm : most ≤ 900) (w : World) (hV : WldV w wv X) (hX : WOk X)
    (hN : ∀ (T C : Int) (B : Option Addr) (n kc : Nat) (rs : List Res) (w' : World), T = X.T → C = X.C → rs.length ≤ most → LogV w' B n kc rs → GoodR rs → Calls Try.prog 17 #[.int .i64 T, .int .i64 C, .int .i64 me, .agg #[.int .i64 k, .int .i64 u, .int .i64 v, .int .u64 d], .slice B n kc] w' fun e w'' => e = (P (rs.map Res.n)).fin ∧ Ext w' w'')
    (hP : ∀ (ns : List Int) (x : Acc), U64s ns → P ns = .stop x → ∃ a : Ask, x = a.acc ∧ a.Ok) :
    Calls Try.prog 22 #[wv, .int .i64 me, .agg #[.int .i64 k, .int .i64 u, .int .i64 v, .int .u64 d], .int .i64 most] w fun e w' => ∃ v', e = .returned (.tuple #[v', .agg (aloneN P me (most + 1) X []).2.1.cells, .bool (aloneN P me (most + 1) X []).2.2]) ∧ WldV w' v' (aloneN P me (most + 1) X []).1 ∧ Ext w w' := by
  obtain ⟨E, hE0⟩ : ∃ E, aloneN P me (most + 1) X [] = E := ⟨_, rfl⟩
  have HE := Lib.hid hE0
  rw [hE0]
  clear hE0
  obtain ⟨vA, vq, vc, vB, vb, vC, vd, rfl⟩ := hV.form6
  obtain ⟨i0, hi0, hz0, hz1, hz2⟩ := info_parts info_res
  have hr1 : ∀ (W : World) (a b c : Value), (Instr.buildSlice 25 1 #[(0, .agg #[a, b, c])]).run Try.prog W = .ok (.slice (some ⟨W.heap.size, 0, none⟩) 1 1) (W.alloc (.cells #[a, b, c] 130)) := fun _ _ _ _ => by kernel_rfl
  have hb2 : ∀ (W : World), (Instr.build 37 #[]).run Try.prog W = .ok (.agg #[.int .i64 0, .bool false, .int .i64 0, .int .u64 0, .slice none 0 0]) W := fun _ => by kernel_rfl
  go_enter Try.func22, Try.ntmps22
  go_upto_region 1 with (fail)
  obtain ⟨hWr, hbx0, hp, h8, h9⟩ := boxes4n w (.cells #[.int .i64 X.T, .int .i64 X.C, .slice vA vq vc, .int .u64 X.R, .slice vB X.n vb, .slice vC X.n vd] 51) (.cells #[.int .i64 k, .int .i64 u, .int .i64 v, .int .u64 d] 24) (.cells #[.int .i64 0, .int .i64 0, .slice none 0 0, .int .u64 0, .slice none 0 0, .slice none 0 0] 51) (.cells #[.int .i64 0, .bool false, .int .i64 0, .int .u64 0, .slice none 0 0] 37)
  generalize (((w.alloc (.cells #[.int .i64 X.T, .int .i64 X.C, .slice vA vq vc, .int .u64 X.R, .slice vB X.n vb, .slice vC X.n vd] 51)).alloc (.cells #[.int .i64 k, .int .i64 u, .int .i64 v, .int .u64 d] 24)).alloc (.cells #[.int .i64 0, .int .i64 0, .slice none 0 0, .int .u64 0, .slice none 0 0, .slice none 0 0] 51)).alloc (.cells #[.int .i64 0, .bool false, .int .i64 0, .int .u64 0, .slice none 0 0] 37) = W0 at *
  have hbx : BoxW W0 w.heap.size X := ⟨_, hbx0, hV.ext hWr⟩
  have hs0 : w.heap.size + 1 + 1 + 1 < W0.heap.size := (Array.getElem?_eq_some_iff.1 h9).1
  clear hbx0 hV
  obtain ⟨gp, hgp⟩ : ∃ gp, w.heap.size + 1 = gp := ⟨_, rfl⟩
  rw [hgp] at hp h8 h9 hs0
  obtain ⟨g8, hg8⟩ : ∃ g8, gp + 1 = g8 := ⟨_, rfl⟩
  simp only [hgp]
  rw [hg8] at h8 h9 hs0
  simp only [hg8]
  obtain ⟨g9, hg9⟩ : ∃ g9, g8 + 1 = g9 := ⟨_, rfl⟩
  rw [hg9] at h9 hs0
  simp only [hg9]
  obtain ⟨gs, hgs⟩ : ∃ gs, gs = W0.heap.size := ⟨_, rfl⟩
  rw [← hgs] at hs0
  have hgr : gs ≤ W0.heap.size := Nat.le_of_eq hgs
  have l1 : w.heap.size < gp := by omega
  have l2 : gp < g8 := by omega
  have l3 : g8 < g9 := by omega
  clear hgp hg8 hg9 hgs
  have hle0 : w.heap.size ≤ w.heap.size := Nat.le_refl _
  generalize hgw : w.heap.size = gw at *
  have hgw2 : w.heap.size ≤ gw := Nat.le_of_eq hgw
  clear hgw hle0
  go_wp2
  go_loopw [12, 11] (fun iv lv wr => ∃ (j : Nat) (Xj : WldK) (rs : List Res), iv = .int .i64 (j : Int) ∧ j ≤ most + 1 ∧ rs.length = j ∧ ResOwn wr gs lv j rs ∧ GoodR rs ∧ BoxW wr gw Xj ∧ WOk Xj ∧ Xj.T = X.T ∧ Xj.C = X.C ∧ aloneN P me (most + 1 - j) Xj (rs.map Res.n) = E ∧ Ext w wr ∧ gs ≤ wr.heap.size ∧ wr.heap[gp]? = some (.cells #[.int .i64 k, .int .i64 u, .int .i64 v, .int .u64 d] 24 (0, 0)) ∧ wr.heap[g8]? = some (.cells #[.int .i64 0, .int .i64 0, .slice none 0 0, .int .u64 0, .slice none 0 0, .slice none 0 0] 51 (0, 0)) ∧ wr.heap[g9]? = some (.cells #[.int .i64 0, .bool false, .int .i64 0, .int .u64 0, .slice none 0 0] 37 (0, 0))) (fun iv _ _ => most + 1 - (intOf iv).toNat)
  case atStart => exact ⟨0, X, [], rfl, Nat.zero_le _, rfl, ResOwn.nil _ _, (fun r hr => by cases hr), hbx, hX, rfl, rfl, HE.out, hWr, hgr, hp, h8, h9⟩
  case round =>
    obtain ⟨j, Xj, rs, rfl, hj, hrl, hown, hGR, hbx, hXj, hT, hC, hEj, hWr, hgr, hp, h8, h9⟩ := hrel
    have HEJ := Lib.hid hEj
    have HT := Lib.hid hT
    have HC := Lib.hid hC
    clear hEj HE hT hC
    obtain ⟨wA, wq, wc, wB, wb, wC, wd, hb0, hbV⟩ := hbx.form
    have HB0 := Lib.hid hb0
    have e0 : wr.cell? ⟨gw, 0, none⟩ = some (.int .i64 Xj.T) := by simp [World.cell?, hb0]
    have e1 : wr.cell? ⟨gw, 1, none⟩ = some (.int .i64 Xj.C) := by simp [World.cell?, hb0]
    have e2 : wr.cell? ⟨gw, 2, none⟩ = some (.slice wA wq wc) := by simp [World.cell?, hb0]
    have e3 : wr.cell? ⟨gw, 3, none⟩ = some (.int .u64 Xj.R) := by simp [World.cell?, hb0]
    have e4 : wr.cell? ⟨gw, 4, none⟩ = some (.slice wB Xj.n wb) := by simp [World.cell?, hb0]
    have e5 : wr.cell? ⟨gw, 5, none⟩ = some (.slice wC Xj.n wd) := by simp [World.cell?, hb0]
    have p0 : wr.cell? ⟨gp, 0, none⟩ = some (.int .i64 k) := by simp [World.cell?, hp]
    have p1 : wr.cell? ⟨gp, 1, none⟩ = some (.int .i64 u) := by simp [World.cell?, hp]
    have p2 : wr.cell? ⟨gp, 2, none⟩ = some (.int .i64 v) := by simp [World.cell?, hp]
    have p3 : wr.cell? ⟨gp, 3, none⟩ = some (.int .u64 d) := by simp [World.cell?, hp]
    rcases Nat.lt_or_ge most j with hlt | hle
    · have hji : ¬ (j : Int) ≤ (most : Int) := by omega
      obtain rfl : j = most + 1 := by omega
      have hEE : (Xj, (⟨0, false, 0, 0⟩ : OutN), false) = E := by rw [← HEJ.out, Nat.sub_self]; rfl
      have HEE := Lib.hid hEE
      clear hEE HEJ
      clear hb0
      have q0 : wr.cell? ⟨g8, 0, none⟩ = some (.int .i64 0) := by simp [World.cell?, h8]
      have qf0 : wr.frozen? ⟨g8, 0, none⟩ = false := by simp [World.frozen?, h8]
      have q1 : wr.cell? ⟨g8, 1, none⟩ = some (.int .i64 0) := by simp [World.cell?, h8]
      have qf1 : wr.frozen? ⟨g8, 1, none⟩ = false := by simp [World.frozen?, h8]
      have q2 : wr.cell? ⟨g8, 2, none⟩ = some (.slice none 0 0) := by simp [World.cell?, h8]
      have qf2 : wr.frozen? ⟨g8, 2, none⟩ = false := by simp [World.frozen?, h8]
      have q3 : wr.cell? ⟨g8, 3, none⟩ = some (.int .u64 0) := by simp [World.cell?, h8]
      have qf3 : wr.frozen? ⟨g8, 3, none⟩ = false := by simp [World.frozen?, h8]
      have q4 : wr.cell? ⟨g8, 4, none⟩ = some (.slice none 0 0) := by simp [World.cell?, h8]
      have qf4 : wr.frozen? ⟨g8, 4, none⟩ = false := by simp [World.frozen?, h8]
      have q5 : wr.cell? ⟨g8, 5, none⟩ = some (.slice none 0 0) := by simp [World.cell?, h8]
      have qf5 : wr.frozen? ⟨g8, 5, none⟩ = false := by simp [World.frozen?, h8]
      have r0 : wr.cell? ⟨g9, 0, none⟩ = some (.int .i64 0) := by simp [World.cell?, h9]
      have rf0 : wr.frozen? ⟨g9, 0, none⟩ = false := by simp [World.frozen?, h9]
      have r1 : wr.cell? ⟨g9, 1, none⟩ = some (.bool false) := by simp [World.cell?, h9]
      have rf1 : wr.frozen? ⟨g9, 1, none⟩ = false := by simp [World.frozen?, h9]
      have r2 : wr.cell? ⟨g9, 2, none⟩ = some (.int .i64 0) := by simp [World.cell?, h9]
      have rf2 : wr.frozen? ⟨g9, 2, none⟩ = false := by simp [World.frozen?, h9]
      have r3 : wr.cell? ⟨g9, 3, none⟩ = some (.int .u64 0) := by simp [World.cell?, h9]
      have rf3 : wr.frozen? ⟨g9, 3, none⟩ = false := by simp [World.frozen?, h9]
      have r4 : wr.cell? ⟨g9, 4, none⟩ = some (.slice none 0 0) := by simp [World.cell?, h9]
      have rf4 : wr.frozen? ⟨g9, 4, none⟩ = false := by simp [World.frozen?, h9]
      go_wp2
      have hQ8 : (setAll g9 0 [.int .i64 0, .bool false, .int .i64 0, .int .u64 0, .slice none 0 0] (setAll g8 0 [.int .i64 Xj.T, .int .i64 Xj.C, .slice wA wq wc, .int .u64 Xj.R, .slice wB Xj.n wb, .slice wC Xj.n wd] wr)).heap[g8]? = some (.cells #[.int .i64 Xj.T, .int .i64 Xj.C, .slice wA wq wc, .int .u64 Xj.R, .slice wB Xj.n wb, .slice wC Xj.n wd] 51 (0, 0)) := (setAll_other (g := g9) (by omega) [.int .i64 0, .bool false, .int .i64 0, .int .u64 0, .slice none 0 0] 0 (setAll g8 0 [.int .i64 Xj.T, .int .i64 Xj.C, .slice wA wq wc, .int .u64 Xj.R, .slice wB Xj.n wb, .slice wC Xj.n wd] wr)).trans (setAll_all (vs := [.int .i64 Xj.T, .int .i64 Xj.C, .slice wA wq wc, .int .u64 Xj.R, .slice wB Xj.n wb, .slice wC Xj.n wd]) h8 rfl)
      have hQ9 : (setAll g9 0 [.int .i64 0, .bool false, .int .i64 0, .int .u64 0, .slice none 0 0] (setAll g8 0 [.int .i64 Xj.T, .int .i64 Xj.C, .slice wA wq wc, .int .u64 Xj.R, .slice wB Xj.n wb, .slice wC Xj.n wd] wr)).heap[g9]? = some (.cells #[.int .i64 0, .bool false, .int .i64 0, .int .u64 0, .slice none 0 0] 37 (0, 0)) := setAll_all (vs := [.int .i64 0, .bool false, .int .i64 0, .int .u64 0, .slice none 0 0]) ((setAll_other (g := g8) (by omega) [.int .i64 Xj.T, .int .i64 Xj.C, .slice wA wq wc, .int .u64 Xj.R, .slice wB Xj.n wb, .slice wC Xj.n wd] 0 wr).trans h9) rfl
      have hV8 := hbV.but hXj.2.2 (But.all g8 [.int .i64 Xj.T, .int .i64 Xj.C, .slice wA wq wc, .int .u64 Xj.R, .slice wB Xj.n wb, .slice wC Xj.n wd] 0 wr) h8 rfl
      have hV9 := hV8.but hXj.2.2 (But.all g9 [.int .i64 0, .bool false, .int .i64 0, .int .u64 0, .slice none 0 0] 0 (setAll g8 0 [.int .i64 Xj.T, .int .i64 Xj.C, .slice wA wq wc, .int .u64 Xj.R, .slice wB Xj.n wb, .slice wC Xj.n wd] wr)) ((setAll_other (g := g8) (by omega) [.int .i64 Xj.T, .int .i64 Xj.C, .slice wA wq wc, .int .u64 Xj.R, .slice wB Xj.n wb, .slice wC Xj.n wd] 0 wr).trans h9) rfl
      have hF9 : Ext w (setAll g9 0 [.int .i64 0, .bool false, .int .i64 0, .int .u64 0, .slice none 0 0] (setAll g8 0 [.int .i64 Xj.T, .int .i64 Xj.C, .slice wA wq wc, .int .u64 Xj.R, .slice wB Xj.n wb, .slice wC Xj.n wd] wr)) := setAll_ext (g := g9) (setAll_ext (g := g8) hWr (by omega)) (by omega)
      simp only [setAll] at hQ8 hQ9 hV9 hF9
      generalize (((((((((((wr.setCell ⟨g8, 0, none⟩ (.int .i64 Xj.T)).setCell ⟨g8, 1, none⟩ (.int .i64 Xj.C)).setCell ⟨g8, 2, none⟩ (.slice wA wq wc)).setCell ⟨g8, 3, none⟩ (.int .u64 Xj.R)).setCell ⟨g8, 4, none⟩ (.slice wB Xj.n wb)).setCell ⟨g8, 5, none⟩ (.slice wC Xj.n wd)).setCell ⟨g9, 0, none⟩ (.int .i64 0)).setCell ⟨g9, 1, none⟩ (.bool false)).setCell ⟨g9, 2, none⟩ (.int .i64 0)).setCell ⟨g9, 3, none⟩ (.int .u64 0)).setCell ⟨g9, 4, none⟩ (.slice none 0 0)) = wf at *
      clear q0 q1 q2 q3 q4 q5 qf0 qf1 qf2 qf3 qf4 qf5 r0 r1 r2 r3 r4 rf0 rf1 rf2 rf3 rf4
      have q0 : wf.cell? ⟨g8, 0, none⟩ = some (.int .i64 Xj.T) := by simp [World.cell?, hQ8]
      have q1 : wf.cell? ⟨g8, 1, none⟩ = some (.int .i64 Xj.C) := by simp [World.cell?, hQ8]
      have q2 : wf.cell? ⟨g8, 2, none⟩ = some (.slice wA wq wc) := by simp [World.cell?, hQ8]
      have q3 : wf.cell? ⟨g8, 3, none⟩ = some (.int .u64 Xj.R) := by simp [World.cell?, hQ8]
      have q4 : wf.cell? ⟨g8, 4, none⟩ = some (.slice wB Xj.n wb) := by simp [World.cell?, hQ8]
      have q5 : wf.cell? ⟨g8, 5, none⟩ = some (.slice wC Xj.n wd) := by simp [World.cell?, hQ8]
      have r0 : wf.cell? ⟨g9, 0, none⟩ = some (.int .i64 0) := by simp [World.cell?, hQ9]
      have r1 : wf.cell? ⟨g9, 1, none⟩ = some (.bool false) := by simp [World.cell?, hQ9]
      have r2 : wf.cell? ⟨g9, 2, none⟩ = some (.int .i64 0) := by simp [World.cell?, hQ9]
      have r3 : wf.cell? ⟨g9, 3, none⟩ = some (.int .u64 0) := by simp [World.cell?, hQ9]
      have r4 : wf.cell? ⟨g9, 4, none⟩ = some (.slice none 0 0) := by simp [World.cell?, hQ9]
      refine bodyPost_ret (v := .tuple #[.agg #[.int .i64 Xj.T, .int .i64 Xj.C, .slice wA wq wc, .int .u64 Xj.R, .slice wB Xj.n wb, .slice wC Xj.n wd], .agg #[.int .i64 0, .bool false, .int .i64 0, .int .u64 0, .slice none 0 0], .bool false]) (by simp [results, Try.results22, go_sem, q0, q1, q2, q3, q4, q5, r0, r1, r2, r3, r4]) rfl ?_
      rw [← HEE.out]
      exact ⟨_, rfl, hV9, hF9⟩
    · obtain ⟨B, kc, rfl, hlog, hB2, hB4⟩ := hown.log (by omega)
      have hjI : (j : Int) ≤ (most : Int) := by omega
      have hEx : aloneN P me (most + 1 - j) Xj (rs.map Res.n) = aloneN P me (most - j + 1) Xj (rs.map Res.n) := by rw [show most + 1 - j = most - j + 1 by omega]
      go_wp2_with fail
      refine (hN Xj.T Xj.C B j kc rs _ HT.out HC.out (by omega) hlog hGR).mono ?_
      rintro e w1 ⟨he, hx⟩
      replace hbx := hbx.ext hx
      replace hbV := hbV.ext hx
      replace hb0 := heap_ext hb0 hx
      replace hp := heap_ext hp hx
      replace h8 := heap_ext h8 hx
      replace h9 := heap_ext h9 hx
      replace hown := hown.ext hx
      replace hgr := Nat.le_trans hgr hx.size
      replace hWr := hWr.trans hx
      clear hx hlog hB2 hB4 HB0 e0 e1 e2 e3 e4 e5 p0 p1 p2 p3
      cases hQ : P (rs.map Res.n) with
      | done o =>
        rw [hQ] at he
        subst he
        have hEE : (Xj, o, true) = E := by rw [← HEJ.out, hEx, aloneN, hQ]
        have HEE := Lib.hid hEE
        clear hEE HEJ hEx hQ
        obtain ⟨o0, o1, o2, o3⟩ := o
        simp only [NextE.fin, accZero, OutN.cells]
        go_upto_region 6 with (fail)
        obtain ⟨hx, hA13, hO14⟩ := two_boxes7 w1 (.cells #[.int .i64 0, .int .i64 0, .int .u64 0, .int .u64 0, .slice none 0 0, .slice none 0 0] 33) (.cells #[.int .i64 o0, .bool o1, .int .i64 o2, .int .u64 o3, .slice none 0 0] 37)
        generalize (w1.alloc (.cells #[.int .i64 0, .int .i64 0, .int .u64 0, .int .u64 0, .slice none 0 0, .slice none 0 0] 33)).alloc (.cells #[.int .i64 o0, .bool o1, .int .i64 o2, .int .u64 o3, .slice none 0 0] 37) = w2 at *
        replace hbx := hbx.ext hx
        replace hbV := hbV.ext hx
        replace hb0 := heap_ext hb0 hx
        replace h8 := heap_ext h8 hx
        replace h9 := heap_ext h9 hx
        have hgr1 := hgr
        replace hgr := Nat.le_trans hgr hx.size
        replace hWr := hWr.trans hx
        clear hx hA13
        generalize w1.heap.size = g13 at *
        have n8 : ¬ g8 = g13 + 1 := by omega
        have n8' : ¬ g13 + 1 = g8 := by omega
        have n9 : ¬ g9 = g13 + 1 := by omega
        have n8g : ¬ g8 = gw := by omega
        have n8g' : ¬ gw = g8 := by omega
        have e0 : w2.cell? ⟨gw, 0, none⟩ = some (.int .i64 Xj.T) := by simp [World.cell?, hb0]
        have e1 : w2.cell? ⟨gw, 1, none⟩ = some (.int .i64 Xj.C) := by simp [World.cell?, hb0]
        have e2 : w2.cell? ⟨gw, 2, none⟩ = some (.slice wA wq wc) := by simp [World.cell?, hb0]
        have e3 : w2.cell? ⟨gw, 3, none⟩ = some (.int .u64 Xj.R) := by simp [World.cell?, hb0]
        have e4 : w2.cell? ⟨gw, 4, none⟩ = some (.slice wB Xj.n wb) := by simp [World.cell?, hb0]
        have e5 : w2.cell? ⟨gw, 5, none⟩ = some (.slice wC Xj.n wd) := by simp [World.cell?, hb0]
        have o_0 : w2.cell? ⟨g13 + 1, 0, none⟩ = some (.int .i64 o0) := by simp [World.cell?, hO14]
        have o_1 : w2.cell? ⟨g13 + 1, 1, none⟩ = some (.bool o1) := by simp [World.cell?, hO14]
        have o_2 : w2.cell? ⟨g13 + 1, 2, none⟩ = some (.int .i64 o2) := by simp [World.cell?, hO14]
        have o_3 : w2.cell? ⟨g13 + 1, 3, none⟩ = some (.int .u64 o3) := by simp [World.cell?, hO14]
        have o_4 : w2.cell? ⟨g13 + 1, 4, none⟩ = some (.slice none 0 0) := by simp [World.cell?, hO14]
        clear hb0 hO14
        have q0 : w2.cell? ⟨g8, 0, none⟩ = some (.int .i64 0) := by simp [World.cell?, h8]
        have qf0 : w2.frozen? ⟨g8, 0, none⟩ = false := by simp [World.frozen?, h8]
        have q1 : w2.cell? ⟨g8, 1, none⟩ = some (.int .i64 0) := by simp [World.cell?, h8]
        have qf1 : w2.frozen? ⟨g8, 1, none⟩ = false := by simp [World.frozen?, h8]
        have q2 : w2.cell? ⟨g8, 2, none⟩ = some (.slice none 0 0) := by simp [World.cell?, h8]
        have qf2 : w2.frozen? ⟨g8, 2, none⟩ = false := by simp [World.frozen?, h8]
        have q3 : w2.cell? ⟨g8, 3, none⟩ = some (.int .u64 0) := by simp [World.cell?, h8]
        have qf3 : w2.frozen? ⟨g8, 3, none⟩ = false := by simp [World.frozen?, h8]
        have q4 : w2.cell? ⟨g8, 4, none⟩ = some (.slice none 0 0) := by simp [World.cell?, h8]
        have qf4 : w2.frozen? ⟨g8, 4, none⟩ = false := by simp [World.frozen?, h8]
        have q5 : w2.cell? ⟨g8, 5, none⟩ = some (.slice none 0 0) := by simp [World.cell?, h8]
        have qf5 : w2.frozen? ⟨g8, 5, none⟩ = false := by simp [World.frozen?, h8]
        have r0 : w2.cell? ⟨g9, 0, none⟩ = some (.int .i64 0) := by simp [World.cell?, h9]
        have rf0 : w2.frozen? ⟨g9, 0, none⟩ = false := by simp [World.frozen?, h9]
        have r1 : w2.cell? ⟨g9, 1, none⟩ = some (.bool false) := by simp [World.cell?, h9]
        have rf1 : w2.frozen? ⟨g9, 1, none⟩ = false := by simp [World.frozen?, h9]
        have r2 : w2.cell? ⟨g9, 2, none⟩ = some (.int .i64 0) := by simp [World.cell?, h9]
        have rf2 : w2.frozen? ⟨g9, 2, none⟩ = false := by simp [World.frozen?, h9]
        have r3 : w2.cell? ⟨g9, 3, none⟩ = some (.int .u64 0) := by simp [World.cell?, h9]
        have rf3 : w2.frozen? ⟨g9, 3, none⟩ = false := by simp [World.frozen?, h9]
        have r4 : w2.cell? ⟨g9, 4, none⟩ = some (.slice none 0 0) := by simp [World.cell?, h9]
        have rf4 : w2.frozen? ⟨g9, 4, none⟩ = false := by simp [World.frozen?, h9]
        go_wp2
        go_region
        all_goals
          have hQ8 : (setAll g9 0 [.int .i64 o0, .bool o1, .int .i64 o2, .int .u64 o3, .slice none 0 0] (setAll g8 0 [.int .i64 Xj.T, .int .i64 Xj.C, .slice wA wq wc, .int .u64 Xj.R, .slice wB Xj.n wb, .slice wC Xj.n wd] w2)).heap[g8]? = some (.cells #[.int .i64 Xj.T, .int .i64 Xj.C, .slice wA wq wc, .int .u64 Xj.R, .slice wB Xj.n wb, .slice wC Xj.n wd] 51 (0, 0)) := (setAll_other (g := g9) (by omega) [.int .i64 o0, .bool o1, .int .i64 o2, .int .u64 o3, .slice none 0 0] 0 (setAll g8 0 [.int .i64 Xj.T, .int .i64 Xj.C, .slice wA wq wc, .int .u64 Xj.R, .slice wB Xj.n wb, .slice wC Xj.n wd] w2)).trans (setAll_all (vs := [.int .i64 Xj.T, .int .i64 Xj.C, .slice wA wq wc, .int .u64 Xj.R, .slice wB Xj.n wb, .slice wC Xj.n wd]) h8 rfl)
          have hQ9 : (setAll g9 0 [.int .i64 o0, .bool o1, .int .i64 o2, .int .u64 o3, .slice none 0 0] (setAll g8 0 [.int .i64 Xj.T, .int .i64 Xj.C, .slice wA wq wc, .int .u64 Xj.R, .slice wB Xj.n wb, .slice wC Xj.n wd] w2)).heap[g9]? = some (.cells #[.int .i64 o0, .bool o1, .int .i64 o2, .int .u64 o3, .slice none 0 0] 37 (0, 0)) := setAll_all (vs := [.int .i64 o0, .bool o1, .int .i64 o2, .int .u64 o3, .slice none 0 0]) ((setAll_other (g := g8) (by omega) [.int .i64 Xj.T, .int .i64 Xj.C, .slice wA wq wc, .int .u64 Xj.R, .slice wB Xj.n wb, .slice wC Xj.n wd] 0 w2).trans h9) rfl
          have hV8 := hbV.but hXj.2.2 (But.all g8 [.int .i64 Xj.T, .int .i64 Xj.C, .slice wA wq wc, .int .u64 Xj.R, .slice wB Xj.n wb, .slice wC Xj.n wd] 0 w2) h8 rfl
          have hV9 := hV8.but hXj.2.2 (But.all g9 [.int .i64 o0, .bool o1, .int .i64 o2, .int .u64 o3, .slice none 0 0] 0 (setAll g8 0 [.int .i64 Xj.T, .int .i64 Xj.C, .slice wA wq wc, .int .u64 Xj.R, .slice wB Xj.n wb, .slice wC Xj.n wd] w2)) ((setAll_other (g := g8) (by omega) [.int .i64 Xj.T, .int .i64 Xj.C, .slice wA wq wc, .int .u64 Xj.R, .slice wB Xj.n wb, .slice wC Xj.n wd] 0 w2).trans h9) rfl
          have hF9 : Ext w (setAll g9 0 [.int .i64 o0, .bool o1, .int .i64 o2, .int .u64 o3, .slice none 0 0] (setAll g8 0 [.int .i64 Xj.T, .int .i64 Xj.C, .slice wA wq wc, .int .u64 Xj.R, .slice wB Xj.n wb, .slice wC Xj.n wd] w2)) := setAll_ext (g := g9) (setAll_ext (g := g8) hWr (by omega)) (by omega)
          simp only [setAll] at hQ8 hQ9 hV9 hF9
          generalize (((((((((((w2.setCell ⟨g8, 0, none⟩ (.int .i64 Xj.T)).setCell ⟨g8, 1, none⟩ (.int .i64 Xj.C)).setCell ⟨g8, 2, none⟩ (.slice wA wq wc)).setCell ⟨g8, 3, none⟩ (.int .u64 Xj.R)).setCell ⟨g8, 4, none⟩ (.slice wB Xj.n wb)).setCell ⟨g8, 5, none⟩ (.slice wC Xj.n wd)).setCell ⟨g9, 0, none⟩ (.int .i64 o0)).setCell ⟨g9, 1, none⟩ (.bool o1)).setCell ⟨g9, 2, none⟩ (.int .i64 o2)).setCell ⟨g9, 3, none⟩ (.int .u64 o3)).setCell ⟨g9, 4, none⟩ (.slice none 0 0)) = wf at *
          clear q0 q1 q2 q3 q4 q5 qf0 qf1 qf2 qf3 qf4 qf5 r0 r1 r2 r3 r4 rf0 rf1 rf2 rf3 rf4
          have hQ8d : wf.drew.heap[g8]? = _ := hQ8
          have hQ9d : wf.drew.heap[g9]? = _ := hQ9
          replace hV9 := hV9.ext (Ext.refl wf.drew).drawn
          replace hF9 := hF9.trans (Ext.refl wf.drew).drawn
          generalize wf.drew = wf at *
          clear hQ8 hQ9
          have hQ8 := hQ8d
          have hQ9 := hQ9d
          clear hQ8d hQ9d
          have q0 : wf.cell? ⟨g8, 0, none⟩ = some (.int .i64 Xj.T) := by simp [World.cell?, hQ8]
          have q1 : wf.cell? ⟨g8, 1, none⟩ = some (.int .i64 Xj.C) := by simp [World.cell?, hQ8]
          have q2 : wf.cell? ⟨g8, 2, none⟩ = some (.slice wA wq wc) := by simp [World.cell?, hQ8]
          have q3 : wf.cell? ⟨g8, 3, none⟩ = some (.int .u64 Xj.R) := by simp [World.cell?, hQ8]
          have q4 : wf.cell? ⟨g8, 4, none⟩ = some (.slice wB Xj.n wb) := by simp [World.cell?, hQ8]
          have q5 : wf.cell? ⟨g8, 5, none⟩ = some (.slice wC Xj.n wd) := by simp [World.cell?, hQ8]
          have r0 : wf.cell? ⟨g9, 0, none⟩ = some (.int .i64 o0) := by simp [World.cell?, hQ9]
          have r1 : wf.cell? ⟨g9, 1, none⟩ = some (.bool o1) := by simp [World.cell?, hQ9]
          have r2 : wf.cell? ⟨g9, 2, none⟩ = some (.int .i64 o2) := by simp [World.cell?, hQ9]
          have r3 : wf.cell? ⟨g9, 3, none⟩ = some (.int .u64 o3) := by simp [World.cell?, hQ9]
          have r4 : wf.cell? ⟨g9, 4, none⟩ = some (.slice none 0 0) := by simp [World.cell?, hQ9]
          go_wp2
          refine bodyPost_ret (v := .tuple #[.agg #[.int .i64 Xj.T, .int .i64 Xj.C, .slice wA wq wc, .int .u64 Xj.R, .slice wB Xj.n wb, .slice wC Xj.n wd], .agg #[.int .i64 o0, .bool o1, .int .i64 o2, .int .u64 o3, .slice none 0 0], .bool true]) (by simp [results, Try.results22, go_sem, q0, q1, q2, q3, q4, q5, r0, r1, r2, r3, r4]) rfl ?_
          rw [← HEE.out]
          exact ⟨_, rfl, hV9, hF9⟩
      | stop x =>
        rw [hQ] at he
        subst he
        obtain ⟨a, rfl, haok⟩ := hP _ _ hGR.u64s hQ
        have hEJ : aloneN P me (most - j) (doK Xj me a.K false) (rs.map Res.n ++ [(doR Xj a.K false).N]) = E := by rw [← HEJ.out, hEx, aloneN, hQ]; rfl
        clear HEJ hEx hQ
        obtain ⟨hX1, hU1, hT1, hC1⟩ := hXj.step me haok
        generalize hKX : doK Xj me a.K false = X1 at *
        generalize hKR : doR Xj a.K false = R1 at *
        have HKX := Lib.hid hKX
        have HKR := Lib.hid hKR
        have HEJ := Lib.hid hEJ
        have HT1 := Lib.hid (hT1.trans HT.out)
        have HC1 := Lib.hid (hC1.trans HC.out)
        clear hKX hKR hEJ hT1 hC1
        have hAV : ∀ (W : World), AccV W (.agg a.acc.cells) a.K := fun W => ⟨none, 0, 0, none, 0, 0, rfl, bytes_nil _, words_nil _, haok.2.2.1, haok.2.2.2⟩
        have hu : useM a.K false = 0 := useM_word haok.2.1
        obtain ⟨a0, a1, a2, a3⟩ := a
        simp only [NextE.fin, Ask.acc, Acc.cells, outZero] at hAV ⊢
        go_upto_region 6 with (fail)
        obtain ⟨hx, hA13, hO14⟩ := two_boxes7 w1 (.cells #[.int .i64 a0, .int .i64 a1, .int .u64 a2, .int .u64 a3, .slice none 0 0, .slice none 0 0] 33) (.cells #[.int .i64 0, .bool false, .int .i64 0, .int .u64 0, .slice none 0 0] 37)
        generalize (w1.alloc (.cells #[.int .i64 a0, .int .i64 a1, .int .u64 a2, .int .u64 a3, .slice none 0 0, .slice none 0 0] 33)).alloc (.cells #[.int .i64 0, .bool false, .int .i64 0, .int .u64 0, .slice none 0 0] 37) = w2 at *
        replace hbx := hbx.ext hx
        replace hbV := hbV.ext hx
        replace hb0 := heap_ext hb0 hx
        replace hp := heap_ext hp hx
        replace h8 := heap_ext h8 hx
        replace h9 := heap_ext h9 hx
        replace hown := hown.ext hx
        replace hgr := Nat.le_trans hgr hx.size
        replace hWr := hWr.trans hx
        clear hx hO14
        generalize w1.heap.size = g13 at *
        have e0 : w2.cell? ⟨gw, 0, none⟩ = some (.int .i64 Xj.T) := by simp [World.cell?, hb0]
        have e1 : w2.cell? ⟨gw, 1, none⟩ = some (.int .i64 Xj.C) := by simp [World.cell?, hb0]
        have e2 : w2.cell? ⟨gw, 2, none⟩ = some (.slice wA wq wc) := by simp [World.cell?, hb0]
        have e3 : w2.cell? ⟨gw, 3, none⟩ = some (.int .u64 Xj.R) := by simp [World.cell?, hb0]
        have e4 : w2.cell? ⟨gw, 4, none⟩ = some (.slice wB Xj.n wb) := by simp [World.cell?, hb0]
        have e5 : w2.cell? ⟨gw, 5, none⟩ = some (.slice wC Xj.n wd) := by simp [World.cell?, hb0]
        have f0 : w2.cell? ⟨g13, 0, none⟩ = some (.int .i64 a0) := by simp [World.cell?, hA13]
        have f1 : w2.cell? ⟨g13, 1, none⟩ = some (.int .i64 a1) := by simp [World.cell?, hA13]
        have f2 : w2.cell? ⟨g13, 2, none⟩ = some (.int .u64 a2) := by simp [World.cell?, hA13]
        have f3 : w2.cell? ⟨g13, 3, none⟩ = some (.int .u64 a3) := by simp [World.cell?, hA13]
        have f4 : w2.cell? ⟨g13, 4, none⟩ = some (.slice none 0 0) := by simp [World.cell?, hA13]
        have f5 : w2.cell? ⟨g13, 5, none⟩ = some (.slice none 0 0) := by simp [World.cell?, hA13]
        go_wp2_with fail
        refine (do_all _ _ Xj me ⟨a0, a1, a2, a3, [], []⟩ false _ hbV (hAV _) (by have := hXj.1; rw [show (⟨a0, a1, a2, a3, [], []⟩ : AccK) = (⟨a0, a1, a2, a3⟩ : Ask).K from rfl, hu]; exact this)).mono ?_
        rintro e w3 ⟨v1, r1, rfl, hV1, hR1, hx⟩
        rw [show doK Xj me ⟨a0, a1, a2, a3, [], []⟩ false = X1 from HKX.out] at hV1
        rw [show doR Xj ⟨a0, a1, a2, a3, [], []⟩ false = R1 from HKR.out] at hR1
        obtain ⟨zA, zq, zc, zB, zb, zC, zd, rfl⟩ := hV1.form6
        obtain ⟨yS, ys, yt, rfl, -⟩ := hR1
        replace hb0 := heap_ext hb0 hx
        replace hp := heap_ext hp hx
        replace h8 := heap_ext h8 hx
        replace h9 := heap_ext h9 hx
        replace hown := hown.ext hx
        replace hgr := Nat.le_trans hgr hx.size
        replace hWr := hWr.trans hx
        clear hx hA13 hbV hbx hAV e0 e1 e2 e3 e4 e5 f0 f1 f2 f3 f4 f5
        go_upto_region 9 with (fail)
        obtain ⟨hx, h16, h17⟩ := two_boxes7 w3 (.cells #[.int .i64 X1.T, .int .i64 X1.C, .slice zA zq zc, .int .u64 X1.R, .slice zB X1.n zb, .slice zC X1.n zd] 51) (.cells #[.int .u64 R1.N, .slice yS ys yt, .bool R1.fail] 130)
        generalize (w3.alloc (.cells #[.int .i64 X1.T, .int .i64 X1.C, .slice zA zq zc, .int .u64 X1.R, .slice zB X1.n zb, .slice zC X1.n zd] 51)).alloc (.cells #[.int .u64 R1.N, .slice yS ys yt, .bool R1.fail] 130) = w4 at *
        replace hb0 := heap_ext hb0 hx
        replace hp := heap_ext hp hx
        replace h8 := heap_ext h8 hx
        replace h9 := heap_ext h9 hx
        replace hown := hown.ext hx
        have hgr3 := hgr
        replace hgr := Nat.le_trans hgr hx.size
        replace hWr := hWr.trans hx
        replace hV1 := hV1.ext hx
        clear hx
        generalize w3.heap.size = g16 at *
        have n16 : ¬ g16 = gw := by omega
        have n17 : ¬ g16 + 1 = gw := by omega
        have f0 : w4.cell? ⟨g16, 0, none⟩ = some (.int .i64 X1.T) := by simp [World.cell?, h16]
        have f1 : w4.cell? ⟨g16, 1, none⟩ = some (.int .i64 X1.C) := by simp [World.cell?, h16]
        have f2 : w4.cell? ⟨g16, 2, none⟩ = some (.slice zA zq zc) := by simp [World.cell?, h16]
        have f3 : w4.cell? ⟨g16, 3, none⟩ = some (.int .u64 X1.R) := by simp [World.cell?, h16]
        have f4 : w4.cell? ⟨g16, 4, none⟩ = some (.slice zB X1.n zb) := by simp [World.cell?, h16]
        have f5 : w4.cell? ⟨g16, 5, none⟩ = some (.slice zC X1.n zd) := by simp [World.cell?, h16]
        have e0 : w4.cell? ⟨gw, 0, none⟩ = some (.int .i64 Xj.T) := by simp [World.cell?, hb0]
        have ef0 : w4.frozen? ⟨gw, 0, none⟩ = false := by simp [World.frozen?, hb0]
        have e1 : w4.cell? ⟨gw, 1, none⟩ = some (.int .i64 Xj.C) := by simp [World.cell?, hb0]
        have ef1 : w4.frozen? ⟨gw, 1, none⟩ = false := by simp [World.frozen?, hb0]
        have e2 : w4.cell? ⟨gw, 2, none⟩ = some (.slice wA wq wc) := by simp [World.cell?, hb0]
        have ef2 : w4.frozen? ⟨gw, 2, none⟩ = false := by simp [World.frozen?, hb0]
        have e3 : w4.cell? ⟨gw, 3, none⟩ = some (.int .u64 Xj.R) := by simp [World.cell?, hb0]
        have ef3 : w4.frozen? ⟨gw, 3, none⟩ = false := by simp [World.frozen?, hb0]
        have e4 : w4.cell? ⟨gw, 4, none⟩ = some (.slice wB Xj.n wb) := by simp [World.cell?, hb0]
        have ef4 : w4.frozen? ⟨gw, 4, none⟩ = false := by simp [World.frozen?, hb0]
        have e5 : w4.cell? ⟨gw, 5, none⟩ = some (.slice wC Xj.n wd) := by simp [World.cell?, hb0]
        have ef5 : w4.frozen? ⟨gw, 5, none⟩ = false := by simp [World.frozen?, hb0]
        go_upto_region 10 with (fail)
        have hbx2 : ((((((w4.setCell ⟨gw, 0, none⟩ (.int .i64 X1.T)).setCell ⟨gw, 1, none⟩ (.int .i64 X1.C)).setCell ⟨gw, 2, none⟩ (.slice zA zq zc)).setCell ⟨gw, 3, none⟩ (.int .u64 X1.R)).setCell ⟨gw, 4, none⟩ (.slice zB X1.n zb)).setCell ⟨gw, 5, none⟩ (.slice zC X1.n zd)).heap[gw]? = some (.cells #[.int .i64 X1.T, .int .i64 X1.C, .slice zA zq zc, .int .u64 X1.R, .slice zB X1.n zb, .slice zC X1.n zd] 51 (0, 0)) := setAll_all (vs := [.int .i64 X1.T, .int .i64 X1.C, .slice zA zq zc, .int .u64 X1.R, .slice zB X1.n zb, .slice zC X1.n zd]) hb0 rfl
        have hWg : Ext w ((((((w4.setCell ⟨gw, 0, none⟩ (.int .i64 X1.T)).setCell ⟨gw, 1, none⟩ (.int .i64 X1.C)).setCell ⟨gw, 2, none⟩ (.slice zA zq zc)).setCell ⟨gw, 3, none⟩ (.int .u64 X1.R)).setCell ⟨gw, 4, none⟩ (.slice zB X1.n zb)).setCell ⟨gw, 5, none⟩ (.slice zC X1.n zd)) := setAll_ext (g := gw) (vs := [.int .i64 X1.T, .int .i64 X1.C, .slice zA zq zc, .int .u64 X1.R, .slice zB X1.n zb, .slice zC X1.n zd]) (i := 0) hWr hgw2
        have hk2 : ∀ g, g ≠ gw → ((((((w4.setCell ⟨gw, 0, none⟩ (.int .i64 X1.T)).setCell ⟨gw, 1, none⟩ (.int .i64 X1.C)).setCell ⟨gw, 2, none⟩ (.slice zA zq zc)).setCell ⟨gw, 3, none⟩ (.int .u64 X1.R)).setCell ⟨gw, 4, none⟩ (.slice zB X1.n zb)).setCell ⟨gw, 5, none⟩ (.slice zC X1.n zd)).heap[g]? = w4.heap[g]? := fun g hg => setAll_other (g := gw) (k := g) hg [.int .i64 X1.T, .int .i64 X1.C, .slice zA zq zc, .int .u64 X1.R, .slice zB X1.n zb, .slice zC X1.n zd] 0 w4
        have hown2 := hown.kept (fun g o hg ho => (hk2 g (by omega)).trans ho)
        have hp2 := (hk2 gp (by omega)).trans hp
        have h82 := (hk2 g8 (by omega)).trans h8
        have h92 := (hk2 g9 (by omega)).trans h9
        have h172 := (hk2 (g16 + 1) n17).trans h17
        have hV3 := hV1.but hX1.2.2 (But.all gw [.int .i64 X1.T, .int .i64 X1.C, .slice zA zq zc, .int .u64 X1.R, .slice zB X1.n zb, .slice zC X1.n zd] 0 w4) hb0 rfl
        change WldV ((((((w4.setCell ⟨gw, 0, none⟩ (.int .i64 X1.T)).setCell ⟨gw, 1, none⟩ (.int .i64 X1.C)).setCell ⟨gw, 2, none⟩ (.slice zA zq zc)).setCell ⟨gw, 3, none⟩ (.int .u64 X1.R)).setCell ⟨gw, 4, none⟩ (.slice zB X1.n zb)).setCell ⟨gw, 5, none⟩ (.slice zC X1.n zd)) _ _ at hV3
        have hgs2 : gs ≤ ((((((w4.setCell ⟨gw, 0, none⟩ (.int .i64 X1.T)).setCell ⟨gw, 1, none⟩ (.int .i64 X1.C)).setCell ⟨gw, 2, none⟩ (.slice zA zq zc)).setCell ⟨gw, 3, none⟩ (.int .u64 X1.R)).setCell ⟨gw, 4, none⟩ (.slice zB X1.n zb)).setCell ⟨gw, 5, none⟩ (.slice zC X1.n zd)).heap.size := by rw [show ((((((w4.setCell ⟨gw, 0, none⟩ (.int .i64 X1.T)).setCell ⟨gw, 1, none⟩ (.int .i64 X1.C)).setCell ⟨gw, 2, none⟩ (.slice zA zq zc)).setCell ⟨gw, 3, none⟩ (.int .u64 X1.R)).setCell ⟨gw, 4, none⟩ (.slice zB X1.n zb)).setCell ⟨gw, 5, none⟩ (.slice zC X1.n zd)).heap.size = w4.heap.size from by simp [World.setCell]]; exact hgr
        clear hk2 hown hp h8 h9 h16 h17 hb0 hV1 hWr hgr f0 f1 f2 f3 f4 f5 e0 e1 e2 e3 e4 e5 ef0 ef1 ef2 ef3 ef4 ef5
        generalize ((((((w4.setCell ⟨gw, 0, none⟩ (.int .i64 X1.T)).setCell ⟨gw, 1, none⟩ (.int .i64 X1.C)).setCell ⟨gw, 2, none⟩ (.slice zA zq zc)).setCell ⟨gw, 3, none⟩ (.int .u64 X1.R)).setCell ⟨gw, 4, none⟩ (.slice zB X1.n zb)).setCell ⟨gw, 5, none⟩ (.slice zC X1.n zd)) = wg at *
        have f0 : wg.cell? ⟨g16 + 1, 0, none⟩ = some (.int .u64 R1.N) := by simp [World.cell?, h172]
        have f1 : wg.cell? ⟨g16 + 1, 1, none⟩ = some (.slice yS ys yt) := by simp [World.cell?, h172]
        have f2 : wg.cell? ⟨g16 + 1, 2, none⟩ = some (.bool R1.fail) := by simp [World.cell?, h172]
        generalize hr : (⟨R1.N, yS, ys, yt, R1.fail⟩ : Res) = r
        have hrc : resCells [r] = [.int .u64 R1.N, .slice yS ys yt, .bool R1.fail] := by rw [← hr]; rfl
        have hrn : r.n = R1.N := by rw [← hr]
        have hWn : Ext wg (wg.alloc (.cells #[.int .u64 R1.N, .slice yS ys yt, .bool R1.fail] 130)) := (Below.refl _ wg).alloc (Nat.le_refl _) _
        have hcn : ∀ (i : Nat) (u : Value), (resCells [r])[i]? = some u → (wg.alloc (.cells #[.int .u64 R1.N, .slice yS ys yt, .bool R1.fail] 130)).cell? ((⟨wg.heap.size, 0, none⟩ : Addr).add i) = some u := by rw [hrc]; exact heap_cells (heap_alloc_new wg _)
        have HR := Lib.hid hrn
        clear hr hrn hrc
        have hown3 := hown2.ext hWn
        go_wp2_with (at_builtin; refine wpList_append_res rfl (.tmp 48) (.tmp 50) _ rfl gs i0 Try.underlying25 hi0 hz0 hz1 hz2 _ j rs rfl hown3 ⟨wg.heap.size, 0, none⟩ 1 r rfl hcn (by omega) (Nat.le_trans hgs2 hWn.size) ?_; intro v2 w5 hown5 hg5)
        have hE5 : Ext w w5 := grown_ext hown3 hg5 (hWg.trans hWn) (by omega)
        have hbx5 : BoxW w5 gw X1 := ⟨_, grown_heap hown3 hg5 (by omega) (heap_ext hbx2 hWn), WldV.grown hown3 hg5 (hV3.ext hWn) hX1.2.2⟩
        have hgs5 : gs ≤ w5.heap.size := Nat.le_trans hgs2 (Nat.le_trans hWn.size hg5.size)
        have hp5 := grown_heap hown3 hg5 (by omega) (heap_ext hp2 hWn)
        have h85 := grown_heap hown3 hg5 (by omega) (heap_ext h82 hWn)
        have h95 := grown_heap hown3 hg5 (by omega) (heap_ext h92 hWn)
        have hGR5 : GoodR (rs ++ [r]) := hGR.snoc (by rw [HR.out]; exact hU1)
        have hE6 : aloneN P me (most + 1 - (j + 1)) X1 ((rs ++ [r]).map Res.n) = E := by rw [List.map_append, List.map_cons, List.map_nil, HR.out, show most + 1 - (j + 1) = most - j by omega]; exact HEJ.out
        have HE6 := Lib.hid hE6
        clear hcn hown2 hown3 hg5 f0 f1 f2 h172 hbx2 hV3 hWn hWg hp2 h82 h92 hE6 HEJ
        go_wp2
        go_roundw
        case rel => exact ⟨j + 1, X1, rs ++ [r], by go_num, by omega, by simp [hrl], hown5, hGR5, hbx5, hX1, HT1.out, HC1.out, HE6.out, hE5, hgs5, hp5, h85, h95⟩
        case measure => simp [intOf]; omega
end Go.Proofs.Ytkdjmfaodojmfaa

namespace Go.Proofs.Ytkdjmfaodojmfaa
open Go.RowKit

/-! What a program is handed, in general: a function value of two captured places, and what stands for it (a log, or a world). -/
def doF (F : FuncId) (c0 c1 : Value) : Value := .func (.func F) #[] #[c0, c1]
/-- what a call of it leads to -/
def GP {σ : Type} (st : σ → Ask → Option (Int × σ)) (Inv : σ → World → Prop) (g : Nat) (s : σ) (x : Ask) (w : World) (val : Int → Value → Prop) (e : Ending) (w' : World) : Prop :=
  match st s x with
  | none => e = needP x.acc.cells ∧ ExtB g w w'
  | some (n, s') => (∃ v, e = .returned v ∧ val n v) ∧ U64 n ∧ Inv s' w' ∧ ExtB g w w'
structure DoOk {σ : Type} (st : σ → Ask → Option (Int × σ)) (F : FuncId) (c0 c1 : Value) (g : Nat) (Inv : σ → World → Prop) : Prop where
  ext : ∀ s w w', Inv s w → Ext w w' → Inv s w'
  call : ∀ (args : Array Value) (w : World), (callFunc F args).run Try.prog w = .ok (.enter F args) w
  run : ∀ s w (x : Ask), Inv s w → x.Ok → Calls Try.prog F #[.agg x.acc.cells, c0, c1] w (GP st Inv g s x w fun n v => ∃ (B : Option Addr) (q c : Nat) (f : Bool), v = .agg #[.int .u64 n, .slice B q c, .bool f])
section
variable {σ : Type} {st : σ → Ask → Option (Int × σ)} {F : FuncId} {c0 c1 : Value} {g : Nat} {Inv : σ → World → Prop}
theorem gload_nx (hd : DoOk st F c0 c1 g Inv) (i : Int) {s s' : σ} {n : Int} (hs : st s (askL i) = some (n, s')) (w : World) (hI : Inv s w) :
    Calls Try.prog 98 #[doF F c0 c1, .int .i64 i] w fun e w' => e = .returned (.int .u64 n) ∧ U64 n ∧ Inv s' w' ∧ ExtB g w w' := by
  refine pload_next F c0 c1 i n (fun w' => U64 n ∧ Inv s' w' ∧ ExtB g w w') w hd.call ((hd.run s w (askL i) hI (askL_ok _)).mono ?_)
  intro e w' h
  simp only [GP, hs] at h
  obtain ⟨⟨v, rfl, B, q, c, f, rfl⟩, h1, h2, h3⟩ := h
  exact ⟨B, q, c, f, rfl, h1, h2, h3⟩
theorem gload_st (hd : DoOk st F c0 c1 g Inv) (i : Int) {s : σ} (hs : st s (askL i) = none) (w : World) (hI : Inv s w) :
    Calls Try.prog 98 #[doF F c0 c1, .int .i64 i] w fun e w' => e = needP (askL i).acc.cells ∧ ExtB g w w' := by
  refine pload_stop F c0 c1 i _ (fun w' => ExtB g w w') w hd.call ((hd.run s w (askL i) hI (askL_ok _)).mono ?_)
  intro e w' h
  simp only [GP, hs] at h
  exact h
theorem gstore_nx (hd : DoOk st F c0 c1 g Inv) (i : Int) (a : Int) (ha : U64 a) {s s' : σ} {n : Int} (hs : st s (askS i a) = some (n, s')) (w : World) (hI : Inv s w) :
    Calls Try.prog 97 #[doF F c0 c1, .int .i64 i, .int .u64 a] w fun e w' => e = .returned (.tuple #[]) ∧ U64 n ∧ Inv s' w' ∧ ExtB g w w' := by
  refine pstore_next F c0 c1 i a n (fun w' => U64 n ∧ Inv s' w' ∧ ExtB g w w') w hd.call ((hd.run s w (askS i a) hI (askS_ok _ ha)).mono ?_)
  intro e w' h
  simp only [GP, hs] at h
  obtain ⟨⟨v, rfl, B, q, c, f, rfl⟩, h1, h2, h3⟩ := h
  exact ⟨B, q, c, f, rfl, h1, h2, h3⟩
theorem gstore_st (hd : DoOk st F c0 c1 g Inv) (i : Int) (a : Int) (ha : U64 a) {s : σ} (hs : st s (askS i a) = none) (w : World) (hI : Inv s w) :
    Calls Try.prog 97 #[doF F c0 c1, .int .i64 i, .int .u64 a] w fun e w' => e = needP (askS i a).acc.cells ∧ ExtB g w w' := by
  refine pstore_stop F c0 c1 i a _ (fun w' => ExtB g w w') w hd.call ((hd.run s w (askS i a) hI (askS_ok _ ha)).mono ?_)
  intro e w' h
  simp only [GP, hs] at h
  exact h
theorem gcas_nx (hd : DoOk st F c0 c1 g Inv) (i : Int) (a : Int) (b : Int) (ha : U64 a) (hb : U64 b) {s s' : σ} {n : Int} (hs : st s (askC i a b) = some (n, s')) (w : World) (hI : Inv s w) :
    Calls Try.prog 99 #[doF F c0 c1, .int .i64 i, .int .u64 a, .int .u64 b] w fun e w' => e = .returned (.bool (n == 1)) ∧ U64 n ∧ Inv s' w' ∧ ExtB g w w' := by
  refine pcas_next F c0 c1 i a b n (fun w' => U64 n ∧ Inv s' w' ∧ ExtB g w w') w hd.call ((hd.run s w (askC i a b) hI (askC_ok _ ha hb)).mono ?_)
  intro e w' h
  simp only [GP, hs] at h
  obtain ⟨⟨v, rfl, B, q, c, f, rfl⟩, h1, h2, h3⟩ := h
  exact ⟨B, q, c, f, rfl, h1, h2, h3⟩
theorem gcas_st (hd : DoOk st F c0 c1 g Inv) (i : Int) (a : Int) (b : Int) (ha : U64 a) (hb : U64 b) {s : σ} (hs : st s (askC i a b) = none) (w : World) (hI : Inv s w) :
    Calls Try.prog 99 #[doF F c0 c1, .int .i64 i, .int .u64 a, .int .u64 b] w fun e w' => e = needP (askC i a b).acc.cells ∧ ExtB g w w' := by
  refine pcas_stop F c0 c1 i a b _ (fun w' => ExtB g w w') w hd.call ((hd.run s w (askC i a b) hI (askC_ok _ ha hb)).mono ?_)
  intro e w' h
  simp only [GP, hs] at h
  exact h
theorem gswap_nx (hd : DoOk st F c0 c1 g Inv) (i : Int) (a : Int) (ha : U64 a) {s s' : σ} {n : Int} (hs : st s (askX i a) = some (n, s')) (w : World) (hI : Inv s w) :
    Calls Try.prog 101 #[doF F c0 c1, .int .i64 i, .int .u64 a] w fun e w' => e = .returned (.int .u64 n) ∧ U64 n ∧ Inv s' w' ∧ ExtB g w w' := by
  refine pswap_next F c0 c1 i a n (fun w' => U64 n ∧ Inv s' w' ∧ ExtB g w w') w hd.call ((hd.run s w (askX i a) hI (askX_ok _ ha)).mono ?_)
  intro e w' h
  simp only [GP, hs] at h
  obtain ⟨⟨v, rfl, B, q, c, f, rfl⟩, h1, h2, h3⟩ := h
  exact ⟨B, q, c, f, rfl, h1, h2, h3⟩
theorem gswap_st (hd : DoOk st F c0 c1 g Inv) (i : Int) (a : Int) (ha : U64 a) {s : σ} (hs : st s (askX i a) = none) (w : World) (hI : Inv s w) :
    Calls Try.prog 101 #[doF F c0 c1, .int .i64 i, .int .u64 a] w fun e w' => e = needP (askX i a).acc.cells ∧ ExtB g w w' := by
  refine pswap_stop F c0 c1 i a _ (fun w' => ExtB g w w') w hd.call ((hd.run s w (askX i a) hI (askX_ok _ ha)).mono ?_)
  intro e w' h
  simp only [GP, hs] at h
  exact h
end
/-- what a part of a program does -/
def RunP {σ α : Type} (r : PR σ α) (Inv : σ → World → Prop) (g : Nat) (w : World) (v : α → Value) (e : Ending) (w' : World) : Prop :=
  match r with
  | .stop x => e = needP x.acc.cells ∧ ExtB g w w'
  | .ret a s => e = .returned (v a) ∧ Inv s w' ∧ ExtB g w w'
  | .out => False
/-! A loop whose measure stands in no place. -/
theorem least_ex {p : Nat → Prop} (h : ∃ n, p n) : ∃ n, p n ∧ ∀ m, p m → n ≤ m := by
  obtain ⟨n, hn⟩ := h
  induction n using Nat.strongRecOn with
  | _ n ih =>
    by_cases hx : ∃ m, m < n ∧ p m
    · obtain ⟨m, hm, hp⟩ := hx; exact ih m hm hp
    · exact ⟨n, hn, fun m hm => Nat.le_of_not_lt fun hl => hx ⟨m, hl, hm⟩⟩
open Classical in
noncomputable def leastN (p : Nat → Prop) : Nat := if h : ∃ n, p n then (least_ex h).choose else 0
theorem leastN_spec {p : Nat → Prop} (h : ∃ n, p n) : p (leastN p) := by
  unfold leastN; rw [dif_pos h]; exact (least_ex h).choose_spec.1
theorem leastN_le {p : Nat → Prop} {n : Nat} (h : p n) : leastN p ≤ n := by
  have h1 : ∃ n, p n := ⟨n, h⟩
  unfold leastN; rw [dif_pos h1]; exact (least_ex h1).choose_spec.2 n h
theorem ghost_least {p : Nat → Prop} (h : ∃ n, p n) : ∃ n, p n ∧ n = leastN p := ⟨leastN p, leastN_spec h, rfl⟩
theorem wp_scope_ghost {P : Program} {a : Act} {w : World} {Q : Exit → Act → World → Prop} {c rest : Code} (l : Nat) (J : Nat → Act → World → Prop) (hf : findLabel c l = some rest)
    (first : c.wp P (Exit.jump l (fun a w => ∃ n, J n a w) Q) a w)
    (pass : ∀ n a w, J n a w → rest.wp P (Exit.jump l (fun a' w' => ∃ m, m < n ∧ J m a' w') Q) a w) : (Code.scope c).wp P Q a w := by
  refine wp_scope_jumps l (fun a w => ∃ n, J n a w) (fun a w => leastN fun n => J n a w) hf first ?_
  intro a w hJ
  refine wp_mono (pass _ a w (leastN_spec hJ)) ?_
  intro e a' w' h
  cases e with
  | goto l' =>
    obtain ⟨h1, m, hm, hJm⟩ := h
    exact ⟨h1, ⟨m, hJm⟩, Nat.lt_of_le_of_lt (leastN_le (p := fun n => J n a' w') hJm) hm⟩
  | normal => exact h
  | exit => exact h
  | ret => exact h
  | panic => exact h
  | outgrown => exact h
end Go.Proofs.Ytkdjmfaodojmfaa

namespace Go.Proofs.Ytkdjmfaodojmfaa
open Go.RowKit

/-! pool.Pop, pool.Push of whatever a program is handed. -/
section
variable {σ : Type} {st : σ → Ask → Option (Int × σ)} {F : FuncId} {c0 c1 : Value} {g : Nat} {Inv : σ → World → Prop}
set_option maxRecDepth 100000 in
set_option maxHeartbeats 4000000 in
theorem gpop (hd : DoOk st F c0 c1 g Inv) (t : Int) (ht1 : 0 ≤ t) (ht2 : t ≤ 64) (f : Nat) (s : σ) (w : World) (hI : Inv s w) (hr : (popT t f).run st s ≠ .out) :
    Calls Try.prog 27 #[doF F c0 c1, .int .i64 t] w (RunP ((popT t f).run st s) Inv g w (.int .i64)) := by
  generalize hP : (popT t f).run st s = R at hr
  go_enter Try.func27, Try.ntmps27
  go_wp2
  refine wp_scope_ghost 0 (fun n a' w' => ∃ (u5 u6 u7 u8 u9 u10 u11 u12 u13 u14 u15 u16 u17 u18 u19 u20 u21 u22 u23 u24 u25 u26 u27 u28 : Value) (s' : σ), a' = { tmps := #[doF F c0 c1, .int .i64 t, undef, undef, .int .i64 0, u5, u6, u7, u8, u9, u10, u11, u12, u13, u14, u15, u16, u17, u18, u19, u20, u21, u22, u23, u24, u25, u26, u27, u28], defers := [] } ∧ Inv s' w' ∧ (popT t n).run st s' = R ∧ ExtB g w w') rfl ?_ ?_
  · have hB : ExtB g w w := ExtB.refl _ _
    rcases f with _ | n
    · exact absurd hP.symm hr
    simp only [popT, PT.run] at hP
    go_wp2
    go_step3
    cases h1 : st s (askL 1) with
    | none =>
      simp only [h1] at hP
      go_wp2_with fail
      refine (gload_st hd 1 h1 _ hI).mono ?_
      rintro e wz ⟨rfl, hx⟩
      refine ⟨rfl, ?_⟩
      rw [← hP]
      exact ⟨rfl, hB.trans hx⟩
    | some q =>
      obtain ⟨n1, s1⟩ := q
      simp only [h1] at hP
      go_wp2_with fail
      refine (gload_nx hd 1 h1 _ hI).mono ?_
      rintro e w1 ⟨rfl, hU1, hI1, hx1⟩
      replace hB := hB.trans hx1
      go_wp2_with fail
      refine (first_any _ hU1 _).mono ?_
      rintro e w' ⟨rfl, rfl⟩
      obtain ⟨hf0, hf1⟩ := firstF_rng hU1
      by_cases h0 : firstF n1 = 0
      · simp only [if_pos h0, PT.run] at hP
        rw [h0]
        go_wp2
        (first | (simp only [Exit.jump]; go_ret) | (rw [Exit.noGoto_ret]; go_ret) | go_ret)
        rw [← hP]
        exact ⟨rfl, hI1, hB⟩
      · simp only [if_neg h0, PT.run] at hP
        go_wp2_with fail
        refine (fieldB_any t _ ht1 ht2 hf0 (by omega) _).mono ?_
        rintro e w' ⟨rfl, rfl⟩
        cases h2 : st s1 (askL (linkI t (firstF n1))) with
        | none =>
          simp only [h2] at hP
          go_wp2_with fail
          refine (gload_st hd _ h2 _ hI1).mono ?_
          rintro e wz ⟨rfl, hx⟩
          refine ⟨rfl, ?_⟩
          rw [← hP]
          exact ⟨rfl, hB.trans hx⟩
        | some q =>
          obtain ⟨n2, s2⟩ := q
          simp only [h2] at hP
          go_wp2_with fail
          refine (gload_nx hd _ h2 _ hI1).mono ?_
          rintro e w2 ⟨rfl, hU2, hI2, hx2⟩
          replace hB := hB.trans hx2
          go_wp2_with fail
          refine (first_any _ hU2 _).mono ?_
          rintro e w' ⟨rfl, rfl⟩
          go_wp2_with fail
          refine (tag_any _ _).mono ?_
          rintro e w' ⟨rfl, rfl⟩
          have hwr : IntKind.u64.wrap (tagF n1 + 1) = (tagF n1 + 1) % 18446744073709551616 := IntKind.wrap_u64 _
          have htn : topF (firstF n2) ((tagF n1 + 1) % 18446744073709551616) = topN (firstF n2) n1 := rfl
          generalize (tagF n1 + 1) % 18446744073709551616 = tg at *
          go_wp2_with fail
          refine (top_any _ _ _).mono ?_
          rintro e w' ⟨rfl, rfl⟩
          rw [htn]
          cases h3 : st s2 (askC 1 n1 (topN (firstF n2) n1)) with
          | none =>
            simp only [h3] at hP
            go_wp2_with fail
            refine (gcas_st hd 1 n1 (topN (firstF n2) n1) hU1 (topN_rng _ _) h3 _ hI2).mono ?_
            rintro e wz ⟨rfl, hx⟩
            refine ⟨rfl, ?_⟩
            rw [← hP]
            exact ⟨rfl, hB.trans hx⟩
          | some q =>
            obtain ⟨n3, s3⟩ := q
            simp only [h3] at hP
            go_wp2_with fail
            refine (gcas_nx hd 1 n1 (topN (firstF n2) n1) hU1 (topN_rng _ _) h3 _ hI2).mono ?_
            rintro e w3 ⟨rfl, hU3, hI3, hx3⟩
            have hBk := hB.trans hx3
            by_cases h1 : n3 = 1
            · simp only [if_pos h1, PT.run] at hP
              have h1' : (n3 == 1) = true := by simp [h1]
              rw [h1']
              go_wp2
              (first | (simp only [Exit.jump]; go_ret) | (rw [Exit.noGoto_ret]; go_ret) | go_ret)
              rw [← hP]
              exact ⟨rfl, hI3, hBk⟩
            · simp only [if_neg h1] at hP
              have h1' : (n3 == 1) = false := by simp [h1]
              rw [h1']
              go_wp2
              go_step3
              refine ⟨rfl, n, ⟨_, _, _, _, _, _, _, _, _, _, _, _, _, _, _, _, _, _, _, _, _, _, _, _, s3, rfl, hI3, hP, hBk⟩⟩
  · rintro n a' w' ⟨u5, u6, u7, u8, u9, u10, u11, u12, u13, u14, u15, u16, u17, u18, u19, u20, u21, u22, u23, u24, u25, u26, u27, u28, s, rfl, hI, hP, hB⟩
    rcases n with _ | n
    · exact absurd hP.symm hr
    simp only [popT, PT.run] at hP
    cases h1 : st s (askL 1) with
    | none =>
      simp only [h1] at hP
      go_wp2_with fail
      refine (gload_st hd 1 h1 _ hI).mono ?_
      rintro e wz ⟨rfl, hx⟩
      refine ⟨rfl, ?_⟩
      rw [← hP]
      exact ⟨rfl, hB.trans hx⟩
    | some q =>
      obtain ⟨n1, s1⟩ := q
      simp only [h1] at hP
      go_wp2_with fail
      refine (gload_nx hd 1 h1 _ hI).mono ?_
      rintro e w1 ⟨rfl, hU1, hI1, hx1⟩
      replace hB := hB.trans hx1
      go_wp2_with fail
      refine (first_any _ hU1 _).mono ?_
      rintro e w' ⟨rfl, rfl⟩
      obtain ⟨hf0, hf1⟩ := firstF_rng hU1
      by_cases h0 : firstF n1 = 0
      · simp only [if_pos h0, PT.run] at hP
        rw [h0]
        go_wp2
        (first | (simp only [Exit.jump]; go_ret) | (rw [Exit.noGoto_ret]; go_ret) | go_ret)
        rw [← hP]
        exact ⟨rfl, hI1, hB⟩
      · simp only [if_neg h0, PT.run] at hP
        go_wp2_with fail
        refine (fieldB_any t _ ht1 ht2 hf0 (by omega) _).mono ?_
        rintro e w' ⟨rfl, rfl⟩
        cases h2 : st s1 (askL (linkI t (firstF n1))) with
        | none =>
          simp only [h2] at hP
          go_wp2_with fail
          refine (gload_st hd _ h2 _ hI1).mono ?_
          rintro e wz ⟨rfl, hx⟩
          refine ⟨rfl, ?_⟩
          rw [← hP]
          exact ⟨rfl, hB.trans hx⟩
        | some q =>
          obtain ⟨n2, s2⟩ := q
          simp only [h2] at hP
          go_wp2_with fail
          refine (gload_nx hd _ h2 _ hI1).mono ?_
          rintro e w2 ⟨rfl, hU2, hI2, hx2⟩
          replace hB := hB.trans hx2
          go_wp2_with fail
          refine (first_any _ hU2 _).mono ?_
          rintro e w' ⟨rfl, rfl⟩
          go_wp2_with fail
          refine (tag_any _ _).mono ?_
          rintro e w' ⟨rfl, rfl⟩
          have hwr : IntKind.u64.wrap (tagF n1 + 1) = (tagF n1 + 1) % 18446744073709551616 := IntKind.wrap_u64 _
          have htn : topF (firstF n2) ((tagF n1 + 1) % 18446744073709551616) = topN (firstF n2) n1 := rfl
          generalize (tagF n1 + 1) % 18446744073709551616 = tg at *
          go_wp2_with fail
          refine (top_any _ _ _).mono ?_
          rintro e w' ⟨rfl, rfl⟩
          rw [htn]
          cases h3 : st s2 (askC 1 n1 (topN (firstF n2) n1)) with
          | none =>
            simp only [h3] at hP
            go_wp2_with fail
            refine (gcas_st hd 1 n1 (topN (firstF n2) n1) hU1 (topN_rng _ _) h3 _ hI2).mono ?_
            rintro e wz ⟨rfl, hx⟩
            refine ⟨rfl, ?_⟩
            rw [← hP]
            exact ⟨rfl, hB.trans hx⟩
          | some q =>
            obtain ⟨n3, s3⟩ := q
            simp only [h3] at hP
            go_wp2_with fail
            refine (gcas_nx hd 1 n1 (topN (firstF n2) n1) hU1 (topN_rng _ _) h3 _ hI2).mono ?_
            rintro e w3 ⟨rfl, hU3, hI3, hx3⟩
            have hBk := hB.trans hx3
            by_cases h1 : n3 = 1
            · simp only [if_pos h1, PT.run] at hP
              have h1' : (n3 == 1) = true := by simp [h1]
              rw [h1']
              go_wp2
              (first | (simp only [Exit.jump]; go_ret) | (rw [Exit.noGoto_ret]; go_ret) | go_ret)
              rw [← hP]
              exact ⟨rfl, hI3, hBk⟩
            · simp only [if_neg h1] at hP
              have h1' : (n3 == 1) = false := by simp [h1]
              rw [h1']
              go_wp2
              go_step3
              refine ⟨rfl, n, Nat.lt_succ_self n, ⟨_, _, _, _, _, _, _, _, _, _, _, _, _, _, _, _, _, _, _, _, _, _, _, _, s3, rfl, hI3, hP, hBk⟩⟩
set_option maxRecDepth 100000 in
set_option maxHeartbeats 4000000 in
theorem gpush (hd : DoOk st F c0 c1 g Inv) (t r : Int) (ht1 : 0 ≤ t) (ht2 : t ≤ 64) (hr1 : 0 ≤ r) (hr2 : r ≤ 1048576) (f : Nat) (s : σ) (w : World) (hI : Inv s w) (hr : (pushT t r f).run st s ≠ .out) :
    Calls Try.prog 26 #[doF F c0 c1, .int .i64 t, .int .i64 r] w (RunP ((pushT t r f).run st s) Inv g w (fun _ => .tuple #[])) := by
  generalize hP : (pushT t r f).run st s = R at hr
  go_enter Try.func26, Try.ntmps26
  simp only [doF]
  go_wp2
  refine wp_scope_ghost 0 (fun n a' w' => ∃ (u6 u7 u8 u9 u10 u11 u12 u13 u14 u15 u16 u17 u18 u19 u20 u21 u22 u23 u24 u25 : Value) (s' : σ), a' = { tmps := #[doF F c0 c1, .int .i64 t, .int .i64 r, undef, undef, undef, u6, u7, u8, u9, u10, u11, u12, u13, u14, u15, u16, u17, u18, u19, u20, u21, u22, u23, u24, u25], defers := [] } ∧ Inv s' w' ∧ (pushT t r n).run st s' = R ∧ ExtB g w w') rfl ?_ ?_
  · have hB : ExtB g w w := ExtB.refl _ _
    rcases f with _ | n
    · exact absurd hP.symm hr
    simp only [pushT, PT.run] at hP
    go_wp2
    go_step3
    cases h1 : st s (askL 1) with
    | none =>
      simp only [h1] at hP
      go_wp2_with fail
      refine (gload_st hd 1 h1 _ hI).mono ?_
      rintro e wz ⟨rfl, hx⟩
      refine ⟨rfl, ?_⟩
      rw [← hP]
      exact ⟨rfl, hB.trans hx⟩
    | some q =>
      obtain ⟨n1, s1⟩ := q
      simp only [h1] at hP
      go_wp2_with fail
      refine (gload_nx hd 1 h1 _ hI).mono ?_
      rintro e w1 ⟨rfl, hU1, hI1, hx1⟩
      replace hB := hB.trans hx1
      go_wp2_with fail
      refine (fieldB_any t r ht1 ht2 hr1 hr2 _).mono ?_
      rintro e w' ⟨rfl, rfl⟩
      go_wp2_with fail
      refine (first_any _ hU1 _).mono ?_
      rintro e w' ⟨rfl, rfl⟩
      obtain ⟨hf0, hf1⟩ := firstF_rng hU1
      have hfu : U64 (firstF n1) := by unfold U64; omega
      have hfw : IntKind.u64.wrap (firstF n1) = firstF n1 := by rw [IntKind.wrap_u64]; omega
      cases h2 : st s1 (askS (linkI t r) (firstF n1)) with
      | none =>
        simp only [h2] at hP
        go_wp2_with fail
        refine (gstore_st hd _ _ hfu h2 _ hI1).mono ?_
        rintro e wz ⟨rfl, hx⟩
        refine ⟨rfl, ?_⟩
        rw [← hP]
        exact ⟨rfl, hB.trans hx⟩
      | some q =>
        obtain ⟨n2, s2⟩ := q
        simp only [h2] at hP
        go_wp2_with fail
        refine (gstore_nx hd _ _ hfu h2 _ hI1).mono ?_
        rintro e w2 ⟨rfl, hU2, hI2, hx2⟩
        replace hB := hB.trans hx2
        go_wp2_with fail
        refine (tag_any _ _).mono ?_
        rintro e w' ⟨rfl, rfl⟩
        have hwr : IntKind.u64.wrap (tagF n1 + 1) = (tagF n1 + 1) % 18446744073709551616 := IntKind.wrap_u64 _
        have htn : topF r ((tagF n1 + 1) % 18446744073709551616) = topN r n1 := rfl
        generalize (tagF n1 + 1) % 18446744073709551616 = tg at *
        go_wp2_with fail
        refine (top_any _ _ _).mono ?_
        rintro e w' ⟨rfl, rfl⟩
        rw [htn]
        cases h3 : st s2 (askC 1 n1 (topN r n1)) with
        | none =>
          simp only [h3] at hP
          go_wp2_with fail
          refine (gcas_st hd 1 n1 (topN r n1) hU1 (topN_rng _ _) h3 _ hI2).mono ?_
          rintro e wz ⟨rfl, hx⟩
          refine ⟨rfl, ?_⟩
          rw [← hP]
          exact ⟨rfl, hB.trans hx⟩
        | some q =>
          obtain ⟨n3, s3⟩ := q
          simp only [h3] at hP
          go_wp2_with fail
          refine (gcas_nx hd 1 n1 (topN r n1) hU1 (topN_rng _ _) h3 _ hI2).mono ?_
          rintro e w3 ⟨rfl, hU3, hI3, hx3⟩
          have hBk := hB.trans hx3
          by_cases h1 : n3 = 1
          · simp only [if_pos h1, PT.run] at hP
            have h1' : (n3 == 1) = true := by simp [h1]
            rw [h1']
            go_wp2
            simp only [Exit.jump]; refine bodyPost_end (v := .tuple #[]) (by simp [results, Try.results26, go_sem]) rfl ?_
            rw [← hP]
            exact ⟨rfl, hI3, hBk⟩
          · simp only [if_neg h1] at hP
            have h1' : (n3 == 1) = false := by simp [h1]
            rw [h1']
            go_wp2
            go_step3
            refine ⟨rfl, n, ⟨_, _, _, _, _, _, _, _, _, _, _, _, _, _, _, _, _, _, _, _, s3, rfl, hI3, hP, hBk⟩⟩
  · rintro n a' w' ⟨u6, u7, u8, u9, u10, u11, u12, u13, u14, u15, u16, u17, u18, u19, u20, u21, u22, u23, u24, u25, s, rfl, hI, hP, hB⟩
    rcases n with _ | n
    · exact absurd hP.symm hr
    simp only [pushT, PT.run] at hP
    cases h1 : st s (askL 1) with
    | none =>
      simp only [h1] at hP
      go_wp2_with fail
      refine (gload_st hd 1 h1 _ hI).mono ?_
      rintro e wz ⟨rfl, hx⟩
      refine ⟨rfl, ?_⟩
      rw [← hP]
      exact ⟨rfl, hB.trans hx⟩
    | some q =>
      obtain ⟨n1, s1⟩ := q
      simp only [h1] at hP
      go_wp2_with fail
      refine (gload_nx hd 1 h1 _ hI).mono ?_
      rintro e w1 ⟨rfl, hU1, hI1, hx1⟩
      replace hB := hB.trans hx1
      go_wp2_with fail
      refine (fieldB_any t r ht1 ht2 hr1 hr2 _).mono ?_
      rintro e w' ⟨rfl, rfl⟩
      go_wp2_with fail
      refine (first_any _ hU1 _).mono ?_
      rintro e w' ⟨rfl, rfl⟩
      obtain ⟨hf0, hf1⟩ := firstF_rng hU1
      have hfu : U64 (firstF n1) := by unfold U64; omega
      have hfw : IntKind.u64.wrap (firstF n1) = firstF n1 := by rw [IntKind.wrap_u64]; omega
      cases h2 : st s1 (askS (linkI t r) (firstF n1)) with
      | none =>
        simp only [h2] at hP
        go_wp2_with fail
        refine (gstore_st hd _ _ hfu h2 _ hI1).mono ?_
        rintro e wz ⟨rfl, hx⟩
        refine ⟨rfl, ?_⟩
        rw [← hP]
        exact ⟨rfl, hB.trans hx⟩
      | some q =>
        obtain ⟨n2, s2⟩ := q
        simp only [h2] at hP
        go_wp2_with fail
        refine (gstore_nx hd _ _ hfu h2 _ hI1).mono ?_
        rintro e w2 ⟨rfl, hU2, hI2, hx2⟩
        replace hB := hB.trans hx2
        go_wp2_with fail
        refine (tag_any _ _).mono ?_
        rintro e w' ⟨rfl, rfl⟩
        have hwr : IntKind.u64.wrap (tagF n1 + 1) = (tagF n1 + 1) % 18446744073709551616 := IntKind.wrap_u64 _
        have htn : topF r ((tagF n1 + 1) % 18446744073709551616) = topN r n1 := rfl
        generalize (tagF n1 + 1) % 18446744073709551616 = tg at *
        go_wp2_with fail
        refine (top_any _ _ _).mono ?_
        rintro e w' ⟨rfl, rfl⟩
        rw [htn]
        cases h3 : st s2 (askC 1 n1 (topN r n1)) with
        | none =>
          simp only [h3] at hP
          go_wp2_with fail
          refine (gcas_st hd 1 n1 (topN r n1) hU1 (topN_rng _ _) h3 _ hI2).mono ?_
          rintro e wz ⟨rfl, hx⟩
          refine ⟨rfl, ?_⟩
          rw [← hP]
          exact ⟨rfl, hB.trans hx⟩
        | some q =>
          obtain ⟨n3, s3⟩ := q
          simp only [h3] at hP
          go_wp2_with fail
          refine (gcas_nx hd 1 n1 (topN r n1) hU1 (topN_rng _ _) h3 _ hI2).mono ?_
          rintro e w3 ⟨rfl, hU3, hI3, hx3⟩
          have hBk := hB.trans hx3
          by_cases h1 : n3 = 1
          · simp only [if_pos h1, PT.run] at hP
            have h1' : (n3 == 1) = true := by simp [h1]
            rw [h1']
            go_wp2
            simp only [Exit.jump]; refine bodyPost_end (v := .tuple #[]) (by simp [results, Try.results26, go_sem]) rfl ?_
            rw [← hP]
            exact ⟨rfl, hI3, hBk⟩
          · simp only [if_neg h1] at hP
            have h1' : (n3 == 1) = false := by simp [h1]
            rw [h1']
            go_wp2
            go_step3
            refine ⟨rfl, n, Nat.lt_succ_self n, ⟨_, _, _, _, _, _, _, _, _, _, _, _, _, _, _, _, _, _, _, _, s3, rfl, hI3, hP, hBk⟩⟩
end
end Go.Proofs.Ytkdjmfaodojmfaa

namespace Go.Proofs.Ytkdjmfaodojmfaa
open Go.RowKit

/-! What a program is handed by play.Run; pool.Pop, pool.Push of it. -/
def LogI (gA gL m : Nat) (rs : List Res) (w : World) : Prop := DoAt m w gA gL rs ∧ GoodR rs
theorem log_ok (gA gL m : Nat) : DoOk (stM Res.n) 132 (.pointer (some ⟨gA, 0, none⟩)) (.pointer (some ⟨gL, 0, none⟩)) gA (LogI gA gL m) where
  ext s w w' h hx := ⟨h.1.ext hx, h.2⟩
  call := Try.call132
  run s w x h hx := by
    cases s with
    | nil => exact (do_stop _ _ _ _ _ _ gA gL m w h.1).mono fun e w' ⟨he, hx⟩ => ⟨he, .of hx⟩
    | cons r rs => exact (do_next _ _ _ _ _ _ gA gL r rs m w h.1).mono fun e w' ⟨he, h1, h2⟩ => ⟨⟨_, he, r.A, r.k, r.c, r.fail, rfl⟩, h.2 r (by simp), ⟨h1, fun q hq => h.2 q (by simp [hq])⟩, h2⟩
theorem pop_prog (gA gL m : Nat) (t : Int) (ht1 : 0 ≤ t) (ht2 : t ≤ 64) (rs : List Res) (w : World) (hD : DoAt m w gA gL rs) (hU : GoodR rs) :
    Calls Try.prog 27 #[doV gA gL, .int .i64 t] w (ProgP (popN t 0 (rs.map Res.n)) m gA gL rs w (.int .i64)) := by
  have hq := popN_run Res.n t (rs.length + 1) rs 0 (by omega)
  refine (gpop (log_ok gA gL m) t ht1 ht2 (rs.length + 1) rs w ⟨hD, hU⟩ ?_).mono ?_
  · intro h; rw [h] at hq; exact hq
  · intro e w' h
    cases hr : (popT t (rs.length + 1)).run (stM Res.n) rs with
    | ret r s' =>
      rw [hr] at h hq
      obtain ⟨j, h1, rfl⟩ := hq
      rw [h1]
      obtain ⟨h2, ⟨h3, _⟩, h4⟩ := h
      exact ⟨h2, by simpa using h3, h4⟩
    | stop x => rw [hr] at h hq; simp only at hq; rw [hq]; exact h
    | out => rw [hr] at hq; exact hq.elim
theorem push_prog (gA gL m : Nat) (t r : Int) (ht1 : 0 ≤ t) (ht2 : t ≤ 64) (hr1 : 0 ≤ r) (hr2 : r ≤ 1048576) (rs : List Res) (w : World) (hD : DoAt m w gA gL rs) (hU : GoodR rs) :
    Calls Try.prog 26 #[doV gA gL, .int .i64 t, .int .i64 r] w (ProgP (pushN t r 0 (rs.map Res.n)) m gA gL rs w (fun _ => .tuple #[])) := by
  have hq := pushN_run Res.n t r (rs.length + 1) rs 0 (by omega)
  refine (gpush (log_ok gA gL m) t r ht1 ht2 hr1 hr2 (rs.length + 1) rs w ⟨hD, hU⟩ ?_).mono ?_
  · intro h; rw [h] at hq; exact hq
  · intro e w' h
    cases hr : (pushT t r (rs.length + 1)).run (stM Res.n) rs with
    | ret q s' =>
      rw [hr] at h hq
      obtain ⟨j, h1, rfl⟩ := hq
      rw [h1]
      obtain ⟨h2, ⟨h3, _⟩, h4⟩ := h
      exact ⟨h2, by simpa using h3, h4⟩
    | stop x => rw [hr] at h hq; simp only at hq; rw [hq]; exact h
    | out => rw [hr] at hq; exact hq.elim
end Go.Proofs.Ytkdjmfaodojmfaa

namespace Go.Proofs.Ytkdjmfaodojmfaa
open Go.RowKit

/-! pool.Next. -/
def NextP (E : NextE) (gA : Nat) (w : World) (e : Ending) (w' : World) : Prop :=
  match E with
  | .stop x => e = needP x.cells ∧ ExtB gA w w'
  | .done o => e = .returned (.agg o.cells) ∧ ExtB gA w w'
set_option maxRecDepth 100000 in
set_option maxHeartbeats 4000000 in
theorem pnext_pop (gA gL m gT gP : Nat) (t u v d : Int) (ht1 : 0 ≤ t) (ht2 : t ≤ 64)  (rs : List Res) (w : World) (hD : DoAt m w gA gL rs) (hU : GoodR rs) (hP : w.heap[gP]? = some (.cells #[.int .i64 1, .int .i64 u, .int .i64 v, .int .u64 d] 24 (0, 0))) (hT : w.heap[gT]? = some (.cells #[.int .i64 t] 3 (0, 0))) (nP : gP ≠ gA) (nT : gT ≠ gA) :
    Calls Try.prog 111 #[doV gA gL, .pointer (some ⟨gP, 0, none⟩), .pointer (some ⟨gT, 0, none⟩)] w (NextP (poolN t 1 u (rs.map Res.n)) gA w) := by
  have hlA : gA < w.heap.size := hD.sizes.1
  have hb1 : ∀ (W : World) (z : Int), (Instr.build 37 #[(2, .int .i64 z)]).run Try.prog W = .ok (.agg #[.int .i64 0, .bool false, .int .i64 z, .int .u64 0, .slice none 0 0]) W := fun _ _ => by kernel_rfl
  have hb2 : ∀ (W : World), (Instr.build 37 #[]).run Try.prog W = .ok (.agg #[.int .i64 0, .bool false, .int .i64 0, .int .u64 0, .slice none 0 0]) W := fun _ => by kernel_rfl
  have hb3 : ∀ (W : World), (Instr.build 37 #[(0, .int .i64 1)]).run Try.prog W = .ok (.agg #[.int .i64 1, .bool false, .int .i64 0, .int .u64 0, .slice none 0 0]) W := fun _ => by kernel_rfl
  go_enter Try.func111, Try.ntmps111
  go_upto_region 1 with (fail)
  have hx0 : Ext w (w.alloc (.cells #[.int .i64 0, .bool false, .int .i64 0, .int .u64 0, .slice none 0 0] 37)) := (Below.refl _ w).alloc (Nat.le_refl _) _
  have hO := heap_alloc_new w (.cells #[.int .i64 0, .bool false, .int .i64 0, .int .u64 0, .slice none 0 0] 37)
  generalize w.alloc (.cells #[.int .i64 0, .bool false, .int .i64 0, .int .u64 0, .slice none 0 0] 37) = W0 at *
  generalize hgO : w.heap.size = gO at *
  replace hP := heap_ext hP hx0
  replace hT := heap_ext hT hx0
  replace hD := hD.ext hx0
  have hB := ExtB.of (g := gA) hx0
  have nO : gO ≠ gA := by omega
  have hgO' := Nat.le_of_eq hgO
  clear hx0 hgO hlA nP nT
  have p0 : W0.cell? ⟨gP, 0, none⟩ = some (.int .i64 1) := by simp [World.cell?, hP]
  have p1 : W0.cell? ⟨gP, 1, none⟩ = some (.int .i64 u) := by simp [World.cell?, hP]
  have p2 : W0.cell? ⟨gP, 2, none⟩ = some (.int .i64 v) := by simp [World.cell?, hP]
  have p3 : W0.cell? ⟨gP, 3, none⟩ = some (.int .u64 d) := by simp [World.cell?, hP]
  have c0 : W0.cell? ⟨gT, 0, none⟩ = some (.int .i64 t) := by simp [World.cell?, hT]
  clear hP hT
  go_wp2_with fail
  refine (pop_prog gA gL m t ht1 ht2 rs W0 hD hU).mono ?_
  intro e w1 h
  cases hE : popN t 0 (rs.map Res.n) with
  | stop x =>
    rw [hE] at h
    obtain ⟨rfl, hx⟩ := h
    refine ⟨rfl, ?_⟩
    rw [show poolN t 1 u (rs.map Res.n) = .stop x by simp [poolN, hE]]
    exact ⟨rfl, hB.trans hx⟩
  | ret r q =>
    rw [hE] at h
    obtain ⟨rfl, -, hx⟩ := h
    replace hO := hx.heap hO nO
    replace hB := hB.trans hx
    have hN : poolN t 1 u (rs.map Res.n) = .done ⟨0, false, r, 0⟩ := by simp [poolN, hE]
    have HN := Lib.hid hN
    clear hx hE hN p0 p1 p2 p3 c0
    have o0 : w1.cell? ⟨gO, 0, none⟩ = some (.int .i64 0) := by simp [World.cell?, hO]
    have of0 : w1.frozen? ⟨gO, 0, none⟩ = false := by simp [World.frozen?, hO]
    have o1 : w1.cell? ⟨gO, 1, none⟩ = some (.bool false) := by simp [World.cell?, hO]
    have of1 : w1.frozen? ⟨gO, 1, none⟩ = false := by simp [World.frozen?, hO]
    have o2 : w1.cell? ⟨gO, 2, none⟩ = some (.int .i64 0) := by simp [World.cell?, hO]
    have of2 : w1.frozen? ⟨gO, 2, none⟩ = false := by simp [World.frozen?, hO]
    have o3 : w1.cell? ⟨gO, 3, none⟩ = some (.int .u64 0) := by simp [World.cell?, hO]
    have of3 : w1.frozen? ⟨gO, 3, none⟩ = false := by simp [World.frozen?, hO]
    have o4 : w1.cell? ⟨gO, 4, none⟩ = some (.slice none 0 0) := by simp [World.cell?, hO]
    have of4 : w1.frozen? ⟨gO, 4, none⟩ = false := by simp [World.frozen?, hO]
    have hO4 : (((((w1.setCell ⟨gO, 0, none⟩ (.int .i64 0)).setCell ⟨gO, 1, none⟩ (.bool false)).setCell ⟨gO, 2, none⟩ (.int .i64 r)).setCell ⟨gO, 3, none⟩ (.int .u64 0)).setCell ⟨gO, 4, none⟩ (.slice none 0 0)).heap[gO]? = some (.cells #[.int .i64 0, .bool false, .int .i64 r, .int .u64 0, .slice none 0 0] 37 (0, 0)) := setAll_all (vs := [.int .i64 0, .bool false, .int .i64 r, .int .u64 0, .slice none 0 0]) hO rfl
    have hB4 : ExtB gA w (((((w1.setCell ⟨gO, 0, none⟩ (.int .i64 0)).setCell ⟨gO, 1, none⟩ (.bool false)).setCell ⟨gO, 2, none⟩ (.int .i64 r)).setCell ⟨gO, 3, none⟩ (.int .u64 0)).setCell ⟨gO, 4, none⟩ (.slice none 0 0)) := ExtB.setAll hB [.int .i64 0, .bool false, .int .i64 r, .int .u64 0, .slice none 0 0] (.inr hgO') 0
    clear hO hB
    go_wp2
    generalize (((((w1.setCell ⟨gO, 0, none⟩ (.int .i64 0)).setCell ⟨gO, 1, none⟩ (.bool false)).setCell ⟨gO, 2, none⟩ (.int .i64 r)).setCell ⟨gO, 3, none⟩ (.int .u64 0)).setCell ⟨gO, 4, none⟩ (.slice none 0 0)) = wo at *
    clear o0 o1 o2 o3 o4 of0 of1 of2 of3 of4
    have o0 : wo.cell? ⟨gO, 0, none⟩ = some (.int .i64 0) := by simp [World.cell?, hO4]
    have o1 : wo.cell? ⟨gO, 1, none⟩ = some (.bool false) := by simp [World.cell?, hO4]
    have o2 : wo.cell? ⟨gO, 2, none⟩ = some (.int .i64 r) := by simp [World.cell?, hO4]
    have o3 : wo.cell? ⟨gO, 3, none⟩ = some (.int .u64 0) := by simp [World.cell?, hO4]
    have o4 : wo.cell? ⟨gO, 4, none⟩ = some (.slice none 0 0) := by simp [World.cell?, hO4]
    refine bodyPost_ret (v := .agg #[.int .i64 0, .bool false, .int .i64 r, .int .u64 0, .slice none 0 0]) (by simp [results, Try.results111, go_sem, o0, o1, o2, o3, o4]) rfl ?_
    rw [HN.out]
    exact ⟨rfl, hB4⟩
set_option maxRecDepth 100000 in
set_option maxHeartbeats 4000000 in
theorem pnext_push (gA gL m gT gP : Nat) (t u v d : Int) (ht1 : 0 ≤ t) (ht2 : t ≤ 64) (hu1 : 0 ≤ u) (hu2 : u ≤ 1048576) (rs : List Res) (w : World) (hD : DoAt m w gA gL rs) (hU : GoodR rs) (hP : w.heap[gP]? = some (.cells #[.int .i64 2, .int .i64 u, .int .i64 v, .int .u64 d] 24 (0, 0))) (hT : w.heap[gT]? = some (.cells #[.int .i64 t] 3 (0, 0))) (nP : gP ≠ gA) (nT : gT ≠ gA) :
    Calls Try.prog 111 #[doV gA gL, .pointer (some ⟨gP, 0, none⟩), .pointer (some ⟨gT, 0, none⟩)] w (NextP (poolN t 2 u (rs.map Res.n)) gA w) := by
  have hlA : gA < w.heap.size := hD.sizes.1
  have hb1 : ∀ (W : World) (z : Int), (Instr.build 37 #[(2, .int .i64 z)]).run Try.prog W = .ok (.agg #[.int .i64 0, .bool false, .int .i64 z, .int .u64 0, .slice none 0 0]) W := fun _ _ => by kernel_rfl
  have hb2 : ∀ (W : World), (Instr.build 37 #[]).run Try.prog W = .ok (.agg #[.int .i64 0, .bool false, .int .i64 0, .int .u64 0, .slice none 0 0]) W := fun _ => by kernel_rfl
  have hb3 : ∀ (W : World), (Instr.build 37 #[(0, .int .i64 1)]).run Try.prog W = .ok (.agg #[.int .i64 1, .bool false, .int .i64 0, .int .u64 0, .slice none 0 0]) W := fun _ => by kernel_rfl
  go_enter Try.func111, Try.ntmps111
  go_upto_region 1 with (fail)
  have hx0 : Ext w (w.alloc (.cells #[.int .i64 0, .bool false, .int .i64 0, .int .u64 0, .slice none 0 0] 37)) := (Below.refl _ w).alloc (Nat.le_refl _) _
  have hO := heap_alloc_new w (.cells #[.int .i64 0, .bool false, .int .i64 0, .int .u64 0, .slice none 0 0] 37)
  generalize w.alloc (.cells #[.int .i64 0, .bool false, .int .i64 0, .int .u64 0, .slice none 0 0] 37) = W0 at *
  generalize hgO : w.heap.size = gO at *
  replace hP := heap_ext hP hx0
  replace hT := heap_ext hT hx0
  replace hD := hD.ext hx0
  have hB := ExtB.of (g := gA) hx0
  have nO : gO ≠ gA := by omega
  have hgO' := Nat.le_of_eq hgO
  clear hx0 hgO hlA nP nT
  have p0 : W0.cell? ⟨gP, 0, none⟩ = some (.int .i64 2) := by simp [World.cell?, hP]
  have p1 : W0.cell? ⟨gP, 1, none⟩ = some (.int .i64 u) := by simp [World.cell?, hP]
  have p2 : W0.cell? ⟨gP, 2, none⟩ = some (.int .i64 v) := by simp [World.cell?, hP]
  have p3 : W0.cell? ⟨gP, 3, none⟩ = some (.int .u64 d) := by simp [World.cell?, hP]
  have c0 : W0.cell? ⟨gT, 0, none⟩ = some (.int .i64 t) := by simp [World.cell?, hT]
  clear hP hT
  go_wp2_with fail
  refine (push_prog gA gL m t u ht1 ht2 hu1 hu2 rs W0 hD hU).mono ?_
  intro e w1 h
  cases hE : pushN t u 0 (rs.map Res.n) with
  | stop x =>
    rw [hE] at h
    obtain ⟨rfl, hx⟩ := h
    refine ⟨rfl, ?_⟩
    rw [show poolN t 2 u (rs.map Res.n) = .stop x by simp [poolN, hE]]
    exact ⟨rfl, hB.trans hx⟩
  | ret r q =>
    rw [hE] at h
    obtain ⟨rfl, -, hx⟩ := h
    replace hO := hx.heap hO nO
    replace hB := hB.trans hx
    have hN : poolN t 2 u (rs.map Res.n) = .done ⟨0, false, 0, 0⟩ := by simp [poolN, hE]
    have HN := Lib.hid hN
    clear hx hE hN p0 p1 p2 p3 c0
    have o0 : w1.cell? ⟨gO, 0, none⟩ = some (.int .i64 0) := by simp [World.cell?, hO]
    have of0 : w1.frozen? ⟨gO, 0, none⟩ = false := by simp [World.frozen?, hO]
    have o1 : w1.cell? ⟨gO, 1, none⟩ = some (.bool false) := by simp [World.cell?, hO]
    have of1 : w1.frozen? ⟨gO, 1, none⟩ = false := by simp [World.frozen?, hO]
    have o2 : w1.cell? ⟨gO, 2, none⟩ = some (.int .i64 0) := by simp [World.cell?, hO]
    have of2 : w1.frozen? ⟨gO, 2, none⟩ = false := by simp [World.frozen?, hO]
    have o3 : w1.cell? ⟨gO, 3, none⟩ = some (.int .u64 0) := by simp [World.cell?, hO]
    have of3 : w1.frozen? ⟨gO, 3, none⟩ = false := by simp [World.frozen?, hO]
    have o4 : w1.cell? ⟨gO, 4, none⟩ = some (.slice none 0 0) := by simp [World.cell?, hO]
    have of4 : w1.frozen? ⟨gO, 4, none⟩ = false := by simp [World.frozen?, hO]
    have hO4 : (((((w1.setCell ⟨gO, 0, none⟩ (.int .i64 0)).setCell ⟨gO, 1, none⟩ (.bool false)).setCell ⟨gO, 2, none⟩ (.int .i64 0)).setCell ⟨gO, 3, none⟩ (.int .u64 0)).setCell ⟨gO, 4, none⟩ (.slice none 0 0)).heap[gO]? = some (.cells #[.int .i64 0, .bool false, .int .i64 0, .int .u64 0, .slice none 0 0] 37 (0, 0)) := setAll_all (vs := [.int .i64 0, .bool false, .int .i64 0, .int .u64 0, .slice none 0 0]) hO rfl
    have hB4 : ExtB gA w (((((w1.setCell ⟨gO, 0, none⟩ (.int .i64 0)).setCell ⟨gO, 1, none⟩ (.bool false)).setCell ⟨gO, 2, none⟩ (.int .i64 0)).setCell ⟨gO, 3, none⟩ (.int .u64 0)).setCell ⟨gO, 4, none⟩ (.slice none 0 0)) := ExtB.setAll hB [.int .i64 0, .bool false, .int .i64 0, .int .u64 0, .slice none 0 0] (.inr hgO') 0
    clear hO hB
    go_wp2
    generalize (((((w1.setCell ⟨gO, 0, none⟩ (.int .i64 0)).setCell ⟨gO, 1, none⟩ (.bool false)).setCell ⟨gO, 2, none⟩ (.int .i64 0)).setCell ⟨gO, 3, none⟩ (.int .u64 0)).setCell ⟨gO, 4, none⟩ (.slice none 0 0)) = wo at *
    clear o0 o1 o2 o3 o4 of0 of1 of2 of3 of4
    have o0 : wo.cell? ⟨gO, 0, none⟩ = some (.int .i64 0) := by simp [World.cell?, hO4]
    have o1 : wo.cell? ⟨gO, 1, none⟩ = some (.bool false) := by simp [World.cell?, hO4]
    have o2 : wo.cell? ⟨gO, 2, none⟩ = some (.int .i64 0) := by simp [World.cell?, hO4]
    have o3 : wo.cell? ⟨gO, 3, none⟩ = some (.int .u64 0) := by simp [World.cell?, hO4]
    have o4 : wo.cell? ⟨gO, 4, none⟩ = some (.slice none 0 0) := by simp [World.cell?, hO4]
    refine bodyPost_ret (v := .agg #[.int .i64 0, .bool false, .int .i64 0, .int .u64 0, .slice none 0 0]) (by simp [results, Try.results111, go_sem, o0, o1, o2, o3, o4]) rfl ?_
    rw [HN.out]
    exact ⟨rfl, hB4⟩
set_option maxRecDepth 100000 in
set_option maxHeartbeats 4000000 in
theorem pnext_no (gA gL m gT gP : Nat) (t k u v d : Int) (ht1 : 0 ≤ t) (ht2 : t ≤ 64) (k1 : ¬ k = 1) (k2 : ¬ k = 2) (rs : List Res) (w : World) (hD : DoAt m w gA gL rs) (hU : GoodR rs) (hP : w.heap[gP]? = some (.cells #[.int .i64 k, .int .i64 u, .int .i64 v, .int .u64 d] 24 (0, 0))) (hT : w.heap[gT]? = some (.cells #[.int .i64 t] 3 (0, 0))) (nP : gP ≠ gA) (nT : gT ≠ gA) :
    Calls Try.prog 111 #[doV gA gL, .pointer (some ⟨gP, 0, none⟩), .pointer (some ⟨gT, 0, none⟩)] w (NextP (poolN t k u (rs.map Res.n)) gA w) := by
  have hlA : gA < w.heap.size := hD.sizes.1
  have hb1 : ∀ (W : World) (z : Int), (Instr.build 37 #[(2, .int .i64 z)]).run Try.prog W = .ok (.agg #[.int .i64 0, .bool false, .int .i64 z, .int .u64 0, .slice none 0 0]) W := fun _ _ => by kernel_rfl
  have hb2 : ∀ (W : World), (Instr.build 37 #[]).run Try.prog W = .ok (.agg #[.int .i64 0, .bool false, .int .i64 0, .int .u64 0, .slice none 0 0]) W := fun _ => by kernel_rfl
  have hb3 : ∀ (W : World), (Instr.build 37 #[(0, .int .i64 1)]).run Try.prog W = .ok (.agg #[.int .i64 1, .bool false, .int .i64 0, .int .u64 0, .slice none 0 0]) W := fun _ => by kernel_rfl
  go_enter Try.func111, Try.ntmps111
  go_upto_region 1 with (fail)
  have hx0 : Ext w (w.alloc (.cells #[.int .i64 0, .bool false, .int .i64 0, .int .u64 0, .slice none 0 0] 37)) := (Below.refl _ w).alloc (Nat.le_refl _) _
  have hO := heap_alloc_new w (.cells #[.int .i64 0, .bool false, .int .i64 0, .int .u64 0, .slice none 0 0] 37)
  generalize w.alloc (.cells #[.int .i64 0, .bool false, .int .i64 0, .int .u64 0, .slice none 0 0] 37) = W0 at *
  generalize hgO : w.heap.size = gO at *
  replace hP := heap_ext hP hx0
  replace hT := heap_ext hT hx0
  replace hD := hD.ext hx0
  have hB := ExtB.of (g := gA) hx0
  have nO : gO ≠ gA := by omega
  have hgO' := Nat.le_of_eq hgO
  clear hx0 hgO hlA nP nT
  have p0 : W0.cell? ⟨gP, 0, none⟩ = some (.int .i64 k) := by simp [World.cell?, hP]
  have p1 : W0.cell? ⟨gP, 1, none⟩ = some (.int .i64 u) := by simp [World.cell?, hP]
  have p2 : W0.cell? ⟨gP, 2, none⟩ = some (.int .i64 v) := by simp [World.cell?, hP]
  have p3 : W0.cell? ⟨gP, 3, none⟩ = some (.int .u64 d) := by simp [World.cell?, hP]
  have c0 : W0.cell? ⟨gT, 0, none⟩ = some (.int .i64 t) := by simp [World.cell?, hT]
  clear hP hT
  have hN : poolN t k u (rs.map Res.n) = .done ⟨1, false, 0, 0⟩ := by simp [poolN, k1, k2]
  have HN := Lib.hid hN
  clear hN
  have kb1 : (k == 1) = false := by simp [k1]
  have kb2 : (k == 2) = false := by simp [k2]
  have o0 : W0.cell? ⟨gO, 0, none⟩ = some (.int .i64 0) := by simp [World.cell?, hO]
  have of0 : W0.frozen? ⟨gO, 0, none⟩ = false := by simp [World.frozen?, hO]
  have o1 : W0.cell? ⟨gO, 1, none⟩ = some (.bool false) := by simp [World.cell?, hO]
  have of1 : W0.frozen? ⟨gO, 1, none⟩ = false := by simp [World.frozen?, hO]
  have o2 : W0.cell? ⟨gO, 2, none⟩ = some (.int .i64 0) := by simp [World.cell?, hO]
  have of2 : W0.frozen? ⟨gO, 2, none⟩ = false := by simp [World.frozen?, hO]
  have o3 : W0.cell? ⟨gO, 3, none⟩ = some (.int .u64 0) := by simp [World.cell?, hO]
  have of3 : W0.frozen? ⟨gO, 3, none⟩ = false := by simp [World.frozen?, hO]
  have o4 : W0.cell? ⟨gO, 4, none⟩ = some (.slice none 0 0) := by simp [World.cell?, hO]
  have of4 : W0.frozen? ⟨gO, 4, none⟩ = false := by simp [World.frozen?, hO]
  have hO4 : (((((W0.setCell ⟨gO, 0, none⟩ (.int .i64 1)).setCell ⟨gO, 1, none⟩ (.bool false)).setCell ⟨gO, 2, none⟩ (.int .i64 0)).setCell ⟨gO, 3, none⟩ (.int .u64 0)).setCell ⟨gO, 4, none⟩ (.slice none 0 0)).heap[gO]? = some (.cells #[.int .i64 1, .bool false, .int .i64 0, .int .u64 0, .slice none 0 0] 37 (0, 0)) := setAll_all (vs := [.int .i64 1, .bool false, .int .i64 0, .int .u64 0, .slice none 0 0]) hO rfl
  have hB4 : ExtB gA w (((((W0.setCell ⟨gO, 0, none⟩ (.int .i64 1)).setCell ⟨gO, 1, none⟩ (.bool false)).setCell ⟨gO, 2, none⟩ (.int .i64 0)).setCell ⟨gO, 3, none⟩ (.int .u64 0)).setCell ⟨gO, 4, none⟩ (.slice none 0 0)) := ExtB.setAll hB [.int .i64 1, .bool false, .int .i64 0, .int .u64 0, .slice none 0 0] (.inr hgO') 0
  clear hO hB
  go_wp2
  generalize (((((W0.setCell ⟨gO, 0, none⟩ (.int .i64 1)).setCell ⟨gO, 1, none⟩ (.bool false)).setCell ⟨gO, 2, none⟩ (.int .i64 0)).setCell ⟨gO, 3, none⟩ (.int .u64 0)).setCell ⟨gO, 4, none⟩ (.slice none 0 0)) = wo at *
  clear o0 o1 o2 o3 o4 of0 of1 of2 of3 of4
  have o0 : wo.cell? ⟨gO, 0, none⟩ = some (.int .i64 1) := by simp [World.cell?, hO4]
  have o1 : wo.cell? ⟨gO, 1, none⟩ = some (.bool false) := by simp [World.cell?, hO4]
  have o2 : wo.cell? ⟨gO, 2, none⟩ = some (.int .i64 0) := by simp [World.cell?, hO4]
  have o3 : wo.cell? ⟨gO, 3, none⟩ = some (.int .u64 0) := by simp [World.cell?, hO4]
  have o4 : wo.cell? ⟨gO, 4, none⟩ = some (.slice none 0 0) := by simp [World.cell?, hO4]
  refine bodyPost_ret (v := .agg #[.int .i64 1, .bool false, .int .i64 0, .int .u64 0, .slice none 0 0]) (by simp [results, Try.results111, go_sem, o0, o1, o2, o3, o4]) rfl ?_
  rw [HN.out]
  exact ⟨rfl, hB4⟩
theorem pnext_prog (gA gL m gT gP : Nat) (t k u v d : Int) (ht1 : 0 ≤ t) (ht2 : t ≤ 64) (hu : k = 2 → 0 ≤ u ∧ u ≤ 1048576) (rs : List Res) (w : World) (hD : DoAt m w gA gL rs) (hU : GoodR rs) (hP : w.heap[gP]? = some (.cells #[.int .i64 k, .int .i64 u, .int .i64 v, .int .u64 d] 24 (0, 0))) (hT : w.heap[gT]? = some (.cells #[.int .i64 t] 3 (0, 0))) (nP : gP ≠ gA) (nT : gT ≠ gA) :
    Calls Try.prog 111 #[doV gA gL, .pointer (some ⟨gP, 0, none⟩), .pointer (some ⟨gT, 0, none⟩)] w (NextP (poolN t k u (rs.map Res.n)) gA w) := by
  by_cases k1 : k = 1
  · subst k1; exact pnext_pop gA gL m gT gP t u v d ht1 ht2 rs w hD hU hP hT nP nT
  by_cases k2 : k = 2
  · subst k2; exact pnext_push gA gL m gT gP t u v d ht1 ht2 (hu rfl).1 (hu rfl).2 rs w hD hU hP hT nP nT
  exact pnext_no gA gL m gT gP t k u v d ht1 ht2 k1 k2 rs w hD hU hP hT nP nT
theorem prun_any (t k u v d : Int) (ht1 : 0 ≤ t) (ht2 : t ≤ 64) (hu : k = 2 → 0 ≤ u ∧ u ≤ 1048576) (B : Option Addr) (n kc : Nat) (rs : List Res) (W : World) (gT gP : Nat) (hlog : LogV W B n kc rs) (hU : GoodR rs) (hT : W.heap[gT]? = some (.cells #[.int .i64 t] 3 (0, 0))) (hP : W.heap[gP]? = some (.cells #[.int .i64 k, .int .i64 u, .int .i64 v, .int .u64 d] 24 (0, 0))) :
    Calls Try.prog 102 #[.func (.func 111) #[] #[.pointer (some ⟨gP, 0, none⟩), .pointer (some ⟨gT, 0, none⟩)], .slice B n kc] W fun e w' => e = (poolN t k u (rs.map Res.n)).fin ∧ Ext W w' := by
  have hlT := (Array.getElem?_eq_some_iff.1 hT).1
  have hlP := (Array.getElem?_eq_some_iff.1 hP).1
  have hprog := fun (gA gL : Nat) (W' : World) (hx : Ext W W') (h1 : W.heap.size ≤ gA) (hD : DoAt W.heap.size W' gA gL rs) => pnext_prog gA gL _ gT gP t k u v d ht1 ht2 hu rs W' hD hU (heap_ext hP hx) (heap_ext hT hx) (by omega) (by omega)
  cases hN : poolN t k u (rs.map Res.n) with
  | stop x =>
    refine run_stop 111 #[.pointer (some ⟨gP, 0, none⟩), .pointer (some ⟨gT, 0, none⟩)] B n kc rs x W hlog Try.call111 fun gA gL W' hx h1 h2 hD => (hprog gA gL W' hx h1 hD).mono ?_
    intro e w' h
    rw [hN] at h
    exact h
  | done o =>
    refine run_done 111 #[.pointer (some ⟨gP, 0, none⟩), .pointer (some ⟨gT, 0, none⟩)] B n kc rs o W hlog Try.call111 fun gA gL W' hx h1 h2 hD => (hprog gA gL W' hx h1 hD).mono ?_
    intro e w' h
    rw [hN] at h
    exact h
set_option maxRecDepth 100000 in
set_option maxHeartbeats 4000000 in
theorem pnext_any (t c me k u v d : Int) (ht1 : 0 ≤ t) (ht2 : t ≤ 64) (hu : k = 2 → 0 ≤ u ∧ u ≤ 1048576) (B : Option Addr) (n kc : Nat) (rs : List Res) (w : World) (hlog : LogV w B n kc rs) (hU : GoodR rs) :
    Calls Try.prog 17 #[.int .i64 t, .int .i64 c, .int .i64 me, .agg #[.int .i64 k, .int .i64 u, .int .i64 v, .int .u64 d], .slice B n kc] w fun e w' => e = (poolN t k u (rs.map Res.n)).fin ∧ Ext w w' := by
  have hmf : ∀ (fn : Fn) (first cap : Array Value) (w : World), (Instr.makeFunc fn first cap).run Try.prog w = .ok (.func fn first cap) w := fun _ _ _ _ => rfl
  have hrun := fun W gT gP h1 h2 h3 => prun_any t k u v d ht1 ht2 hu B n kc rs W gT gP h1 hU h2 h3
  generalize poolN t k u (rs.map Res.n) = E at *
  go_enter Try.func17, Try.ntmps17
  go_upto_region 1 with (fail)
  obtain ⟨hW, hT, hP, hE, hO⟩ := boxes4n w (.cells #[.int .i64 t] 3) (.cells #[.int .i64 k, .int .i64 u, .int .i64 v, .int .u64 d] 24) (.cells #[.int .i64 0, .int .i64 0, .int .u64 0, .int .u64 0, .slice none 0 0, .slice none 0 0] 33) (.cells #[.int .i64 0, .bool false, .int .i64 0, .int .u64 0, .slice none 0 0] 37)
  generalize (((w.alloc (.cells #[.int .i64 t] 3)).alloc (.cells #[.int .i64 k, .int .i64 u, .int .i64 v, .int .u64 d] 24)).alloc (.cells #[.int .i64 0, .int .i64 0, .int .u64 0, .int .u64 0, .slice none 0 0, .slice none 0 0] 33)).alloc (.cells #[.int .i64 0, .bool false, .int .i64 0, .int .u64 0, .slice none 0 0] 37) = W at *
  have hlt : w.heap.size + 1 + 1 + 1 < W.heap.size := (Array.getElem?_eq_some_iff.1 hO).1
  have hrun2 := hrun W _ _ (hlog.ext hW) hT hP
  clear hrun
  go_wp2_with fail
  refine hrun2.mono ?_
  rintro e w1 ⟨he, hx2⟩
  obtain ⟨x0, x1, x2, x3, x4, x5, x6, x7, x8, x9, o0, o1, o2, o3, b, hend⟩ : ∃ x0 x1 x2 x3 x4 x5 x6 x7 x8 x9 o0 o1 o2 o3 b, E.fin = .returned (.tuple #[.agg #[.int .i64 x0, .int .i64 x1, .int .u64 x2, .int .u64 x3, .slice x4 x5 x6, .slice x7 x8 x9], .agg #[.int .i64 o0, .bool o1, .int .i64 o2, .int .u64 o3, .slice none 0 0], .bool b]) := by
    cases E with
    | stop x => exact ⟨_, _, _, _, _, _, _, _, _, _, _, _, _, _, _, rfl⟩
    | done o => exact ⟨_, _, _, _, _, _, _, _, _, _, _, _, _, _, _, rfl⟩
  rw [hend] at he
  subst he
  have hE1 := heap_ext hE hx2
  have hO1 := heap_ext hO hx2
  have hx1 := hW.trans hx2
  have HE := Lib.hid hend
  clear hE hO hP hT hW hlog hrun2 hend hx2
  have e0 : w1.cell? ⟨w.heap.size + 1 + 1, 0, none⟩ = some (.int .i64 0) := by simp [World.cell?, hE1]
  have ef0 : w1.frozen? ⟨w.heap.size + 1 + 1, 0, none⟩ = false := by simp [World.frozen?, hE1]
  have e1 : w1.cell? ⟨w.heap.size + 1 + 1, 1, none⟩ = some (.int .i64 0) := by simp [World.cell?, hE1]
  have ef1 : w1.frozen? ⟨w.heap.size + 1 + 1, 1, none⟩ = false := by simp [World.frozen?, hE1]
  have e2 : w1.cell? ⟨w.heap.size + 1 + 1, 2, none⟩ = some (.int .u64 0) := by simp [World.cell?, hE1]
  have ef2 : w1.frozen? ⟨w.heap.size + 1 + 1, 2, none⟩ = false := by simp [World.frozen?, hE1]
  have e3 : w1.cell? ⟨w.heap.size + 1 + 1, 3, none⟩ = some (.int .u64 0) := by simp [World.cell?, hE1]
  have ef3 : w1.frozen? ⟨w.heap.size + 1 + 1, 3, none⟩ = false := by simp [World.frozen?, hE1]
  have e4 : w1.cell? ⟨w.heap.size + 1 + 1, 4, none⟩ = some (.slice none 0 0) := by simp [World.cell?, hE1]
  have ef4 : w1.frozen? ⟨w.heap.size + 1 + 1, 4, none⟩ = false := by simp [World.frozen?, hE1]
  have e5 : w1.cell? ⟨w.heap.size + 1 + 1, 5, none⟩ = some (.slice none 0 0) := by simp [World.cell?, hE1]
  have ef5 : w1.frozen? ⟨w.heap.size + 1 + 1, 5, none⟩ = false := by simp [World.frozen?, hE1]
  have q0 : w1.cell? ⟨w.heap.size + 1 + 1 + 1, 0, none⟩ = some (.int .i64 0) := by simp [World.cell?, hO1]
  have qf0 : w1.frozen? ⟨w.heap.size + 1 + 1 + 1, 0, none⟩ = false := by simp [World.frozen?, hO1]
  have q1 : w1.cell? ⟨w.heap.size + 1 + 1 + 1, 1, none⟩ = some (.bool false) := by simp [World.cell?, hO1]
  have qf1 : w1.frozen? ⟨w.heap.size + 1 + 1 + 1, 1, none⟩ = false := by simp [World.frozen?, hO1]
  have q2 : w1.cell? ⟨w.heap.size + 1 + 1 + 1, 2, none⟩ = some (.int .i64 0) := by simp [World.cell?, hO1]
  have qf2 : w1.frozen? ⟨w.heap.size + 1 + 1 + 1, 2, none⟩ = false := by simp [World.frozen?, hO1]
  have q3 : w1.cell? ⟨w.heap.size + 1 + 1 + 1, 3, none⟩ = some (.int .u64 0) := by simp [World.cell?, hO1]
  have qf3 : w1.frozen? ⟨w.heap.size + 1 + 1 + 1, 3, none⟩ = false := by simp [World.frozen?, hO1]
  have q4 : w1.cell? ⟨w.heap.size + 1 + 1 + 1, 4, none⟩ = some (.slice none 0 0) := by simp [World.cell?, hO1]
  have qf4 : w1.frozen? ⟨w.heap.size + 1 + 1 + 1, 4, none⟩ = false := by simp [World.frozen?, hO1]
  have hPm : (setAll (w.heap.size + 1 + 1 + 1) 0 [.int .i64 o0, .bool o1, .int .i64 o2, .int .u64 o3, .slice none 0 0] (setAll (w.heap.size + 1 + 1) 0 [.int .i64 x0, .int .i64 x1, .int .u64 x2, .int .u64 x3, .slice x4 x5 x6, .slice x7 x8 x9] w1)).heap[w.heap.size + 1 + 1 + 1]? = some (.cells #[.int .i64 o0, .bool o1, .int .i64 o2, .int .u64 o3, .slice none 0 0] 37 (0, 0)) := setAll_all (vs := [.int .i64 o0, .bool o1, .int .i64 o2, .int .u64 o3, .slice none 0 0]) ((setAll_other (g := w.heap.size + 1 + 1) (by omega) [.int .i64 x0, .int .i64 x1, .int .u64 x2, .int .u64 x3, .slice x4 x5 x6, .slice x7 x8 x9] 0 w1).trans hO1) rfl
  have hEm : (setAll (w.heap.size + 1 + 1 + 1) 0 [.int .i64 o0, .bool o1, .int .i64 o2, .int .u64 o3, .slice none 0 0] (setAll (w.heap.size + 1 + 1) 0 [.int .i64 x0, .int .i64 x1, .int .u64 x2, .int .u64 x3, .slice x4 x5 x6, .slice x7 x8 x9] w1)).heap[w.heap.size + 1 + 1]? = some (.cells #[.int .i64 x0, .int .i64 x1, .int .u64 x2, .int .u64 x3, .slice x4 x5 x6, .slice x7 x8 x9] 33 (0, 0)) := (setAll_other (g := w.heap.size + 1 + 1 + 1) (by omega) [.int .i64 o0, .bool o1, .int .i64 o2, .int .u64 o3, .slice none 0 0] 0 (setAll (w.heap.size + 1 + 1) 0 [.int .i64 x0, .int .i64 x1, .int .u64 x2, .int .u64 x3, .slice x4 x5 x6, .slice x7 x8 x9] w1)).trans (setAll_all (vs := [.int .i64 x0, .int .i64 x1, .int .u64 x2, .int .u64 x3, .slice x4 x5 x6, .slice x7 x8 x9]) hE1 rfl)
  have hF : Ext w (setAll (w.heap.size + 1 + 1 + 1) 0 [.int .i64 o0, .bool o1, .int .i64 o2, .int .u64 o3, .slice none 0 0] (setAll (w.heap.size + 1 + 1) 0 [.int .i64 x0, .int .i64 x1, .int .u64 x2, .int .u64 x3, .slice x4 x5 x6, .slice x7 x8 x9] w1)) := setAll_ext (g := w.heap.size + 1 + 1 + 1) (setAll_ext (g := w.heap.size + 1 + 1) hx1 (by omega)) (by omega)
  simp only [setAll] at hPm hEm hF
  clear hE1 hO1 hx1
  go_wp2
  generalize (((((((((((w1.setCell ⟨w.heap.size + 1 + 1, 0, none⟩ (.int .i64 x0)).setCell ⟨w.heap.size + 1 + 1, 1, none⟩ (.int .i64 x1)).setCell ⟨w.heap.size + 1 + 1, 2, none⟩ (.int .u64 x2)).setCell ⟨w.heap.size + 1 + 1, 3, none⟩ (.int .u64 x3)).setCell ⟨w.heap.size + 1 + 1, 4, none⟩ (.slice x4 x5 x6)).setCell ⟨w.heap.size + 1 + 1, 5, none⟩ (.slice x7 x8 x9)).setCell ⟨w.heap.size + 1 + 1 + 1, 0, none⟩ (.int .i64 o0)).setCell ⟨w.heap.size + 1 + 1 + 1, 1, none⟩ (.bool o1)).setCell ⟨w.heap.size + 1 + 1 + 1, 2, none⟩ (.int .i64 o2)).setCell ⟨w.heap.size + 1 + 1 + 1, 3, none⟩ (.int .u64 o3)).setCell ⟨w.heap.size + 1 + 1 + 1, 4, none⟩ (.slice none 0 0)) = wf at *
  clear e0 e1 e2 e3 e4 e5 ef0 ef1 ef2 ef3 ef4 ef5 q0 q1 q2 q3 q4 qf0 qf1 qf2 qf3 qf4
  have e0 : wf.cell? ⟨w.heap.size + 1 + 1, 0, none⟩ = some (.int .i64 x0) := by simp [World.cell?, hEm]
  have e1 : wf.cell? ⟨w.heap.size + 1 + 1, 1, none⟩ = some (.int .i64 x1) := by simp [World.cell?, hEm]
  have e2 : wf.cell? ⟨w.heap.size + 1 + 1, 2, none⟩ = some (.int .u64 x2) := by simp [World.cell?, hEm]
  have e3 : wf.cell? ⟨w.heap.size + 1 + 1, 3, none⟩ = some (.int .u64 x3) := by simp [World.cell?, hEm]
  have e4 : wf.cell? ⟨w.heap.size + 1 + 1, 4, none⟩ = some (.slice x4 x5 x6) := by simp [World.cell?, hEm]
  have e5 : wf.cell? ⟨w.heap.size + 1 + 1, 5, none⟩ = some (.slice x7 x8 x9) := by simp [World.cell?, hEm]
  have q0 : wf.cell? ⟨w.heap.size + 1 + 1 + 1, 0, none⟩ = some (.int .i64 o0) := by simp [World.cell?, hPm]
  have q1 : wf.cell? ⟨w.heap.size + 1 + 1 + 1, 1, none⟩ = some (.bool o1) := by simp [World.cell?, hPm]
  have q2 : wf.cell? ⟨w.heap.size + 1 + 1 + 1, 2, none⟩ = some (.int .i64 o2) := by simp [World.cell?, hPm]
  have q3 : wf.cell? ⟨w.heap.size + 1 + 1 + 1, 3, none⟩ = some (.int .u64 o3) := by simp [World.cell?, hPm]
  have q4 : wf.cell? ⟨w.heap.size + 1 + 1 + 1, 4, none⟩ = some (.slice none 0 0) := by simp [World.cell?, hPm]
  refine bodyPost_ret (v := .tuple #[.agg #[.int .i64 x0, .int .i64 x1, .int .u64 x2, .int .u64 x3, .slice x4 x5 x6, .slice x7 x8 x9], .agg #[.int .i64 o0, .bool o1, .int .i64 o2, .int .u64 o3, .slice none 0 0], .bool b]) (by simp [results, Try.results17, go_sem, e0, e1, e2, e3, e4, e5, q0, q1, q2, q3, q4]) rfl ⟨HE.out.symm, hF⟩
end Go.Proofs.Ytkdjmfaodojmfaa

namespace Go.Proofs.Ytkdjmfaodojmfaa
open Go.RowKit

/-! Pop and Push, stepping alone. -/
theorem Fit.put {X : WldK} {m : Nat} (h : Fit X m) (i a : Int) : Fit (X.put i a) m := ⟨h.pos, h.le, h.root, by rw [put_len]; exact h.ws, h.k0, h.k1⟩
theorem WOk.put {X : WldK} (h : WOk X) (i : Int) {a : Int} (ha : U64 a) : WOk (X.put i a) := ⟨h.1.put i a, put_u h.2.1 ha, by rw [put_len]; exact h.2.2⟩
theorem WOk.pop {X : WldK} (h : WOk X) (t : Nat) : WOk (popX X t) := h.put _ (topN_u _ _)
theorem WOk.push {X : WldK} (h : WOk X) (t : Nat) (r : Int) : WOk (pushX X t r) := (h.put _ (first_u64 (h.2.1 1))).put _ (topN_u _ _)
def popW (X : WldK) (t : Nat) (pile : List Int) : WldK := if pile = [] then X else popX X t
theorem WOk.popW {X : WldK} (h : WOk X) (t : Nat) (pile : List Int) : WOk (popW X t pile) := by
  unfold Proofs.Ytkdjmfaodojmfaa.popW; split
  · exact h
  · exact h.pop t
theorem popW_pool {X : WldK} {t c : Nat} {pile : List Int} (h : PoolK X t c pile) : PoolK (popW X t pile) t c pile.tail := by
  cases pile with
  | nil => exact h
  | cons x l => exact (pop_pool h).1
theorem poolN_ok (t k u : Int) (ns : List Int) (x : Acc) (h : U64s ns) (hx : poolN t k u ns = .stop x) : ∃ a : Ask, x = a.acc ∧ a.Ok := by
  rw [poolN_eq t k u (ns.length + 1) ns (by omega)] at hx
  unfold nextT at hx
  cases hr : (poolT t k u (ns.length + 1)).run stL ns with
  | ret o l => rw [hr] at hx; simp at hx
  | out => rw [hr] at hx; simp at hx
  | stop y => rw [hr] at hx; simp only [NextE.stop.injEq] at hx; exact ⟨y, hx.symm, (poolT_ok t k u _).stop h hr⟩
theorem pal_any (X : WldK) (t c : Nat) (hD : Dim X t c) (hX : WOk X) (wv : Value) (me k u v d M : Int) (hu : k = 2 → 0 ≤ u ∧ u ≤ 1048576) (most : Nat) (hM : (most : Int) = M) (hm : most ≤ 900) (w : World) (hV : WldV w wv X) :
    Calls Try.prog 22 #[wv, .int .i64 me, .agg #[.int .i64 k, .int .i64 u, .int .i64 v, .int .u64 d], .int .i64 M] w fun e w' => ∃ v', e = .returned (.tuple #[v', .agg (aloneN (poolN t k u) me (most + 1) X []).2.1.cells, .bool (aloneN (poolN t k u) me (most + 1) X []).2.2]) ∧ WldV w' v' (aloneN (poolN t k u) me (most + 1) X []).1 ∧ Ext w w' := by
  subst hM
  refine palone_any (poolN t k u) X wv me k u v d most hm w hV hX ?_ (fun ns x h hx => poolN_ok _ _ _ ns x h hx)
  intro T C B n kc rs w' hT hC _ hlog hG
  obtain rfl : T = (t : Int) := hT.trans hD.T
  exact pnext_any _ _ _ _ _ _ _ (by omega) (by have := hD.t2; omega) hu B n kc rs w' hlog hG
theorem pal_pop (X : WldK) (t c : Nat) (pile : List Int) (h : PoolK X t c pile) (hX : WOk X) (wv : Value) (me u v d M : Int) (most : Nat) (hM : (most : Int) = M) (h3 : 3 ≤ most) (hm : most ≤ 900) (w : World) (hV : WldV w wv X) :
    Calls Try.prog 22 #[wv, .int .i64 me, .agg #[.int .i64 1, .int .i64 u, .int .i64 v, .int .u64 d], .int .i64 M] w fun e w' => ∃ v', e = .returned (.tuple #[v', .agg #[.int .i64 0, .bool false, .int .i64 (pile.headD 0), .int .u64 0, .slice none 0 0], .bool true]) ∧ WldV w' v' (popW X t pile) ∧ Ext w w' := by
  have h1 := pal_any X t c h.dim hX wv me 1 u v d M (by omega) most hM hm w hV
  rw [pop_alone h me u (most + 1) (by omega)] at h1
  exact h1
theorem pal_push (X : WldK) (t c : Nat) (h : Dim X t c) (hX : WOk X) (wv : Value) (me u v d M : Int) (h1 : 1 ≤ u) (h2 : u ≤ (c : Int)) (most : Nat) (hM : (most : Int) = M) (h3 : 3 ≤ most) (hm : most ≤ 900) (w : World) (hV : WldV w wv X) :
    Calls Try.prog 22 #[wv, .int .i64 me, .agg #[.int .i64 2, .int .i64 u, .int .i64 v, .int .u64 d], .int .i64 M] w fun e w' => ∃ v', e = .returned (.tuple #[v', .agg #[.int .i64 0, .bool false, .int .i64 0, .int .u64 0, .slice none 0 0], .bool true]) ∧ WldV w' v' (pushX X t u) ∧ Ext w w' := by
  have hc := h.c2
  have h4 := pal_any X t c h hX wv me 2 u v d M (by omega) most hM hm w hV
  rw [push_alone h h1 h2 me (most + 1) (by omega)] at h4
  exact h4
theorem new_wok {t c : Nat} (t1 : 1 ≤ t) (t2 : t ≤ 64) (hc : c ≤ 1000) : WOk (newW t c) := by
  have hd := new_dim (t := t) (c := c) t1 t2 (by omega)
  refine ⟨⟨?_, ?_, ⟨by simp [newW], by simp [newW]⟩, ?_, ?_, ?_⟩, hd.u, ?_⟩
  · simp only [newW, newN]; rw [if_pos (by omega)]; omega
  · simp only [newW, newN]; rw [if_pos (by omega)]; omega
  · rw [hd.len]; unfold memL; omega
  · intro k hk; obtain ⟨_, rfl⟩ := List.mem_replicate.1 hk; simp
  · intro k hk; obtain ⟨_, rfl⟩ := List.mem_replicate.1 hk; simp
  · rw [hd.len]; unfold memL; omega
end Go.Proofs.Ytkdjmfaodojmfaa

namespace Go.Proofs.Ytkdjmfaodojmfaa
open Go.RowKit

/-! The example of chapter 12. -/
set_option maxRecDepth 100000 in
set_option maxHeartbeats 4000000 in
theorem shown12_any (w : World) : Calls Try.prog 15 #[] w fun e w' => e = .returned (.bool true) ∧ Ext w w' := by
  have hb1 : ∀ (W : World), (Instr.build 24 #[(0, .int .i64 1)]).run Try.prog W = .ok (.agg #[.int .i64 1, .int .i64 0, .int .i64 0, .int .u64 0]) W := fun _ => by kernel_rfl
  have hb2 : ∀ (W : World), (Instr.build 24 #[(0, .int .i64 2), (1, .int .i64 1)]).run Try.prog W = .ok (.agg #[.int .i64 2, .int .i64 1, .int .i64 0, .int .u64 0]) W := fun _ => by kernel_rfl
  have hb0 : ∀ (W : World), (Instr.build 24 #[]).run Try.prog W = .ok (.agg #[.int .i64 0, .int .i64 0, .int .i64 0, .int .u64 0]) W := fun _ => by kernel_rfl
  have h0 := new_pool (t := 2) (c := 3) (by omega) (by omega) (by omega)
  have k0 := new_wok (t := 2) (c := 3) (by omega) (by omega) (by omega)
  have h1 := popW_pool h0
  have k1 := k0.popW 2 (upFrom 1 3)
  have h2 := popW_pool h1
  have k2 := k1.popW 2 (upFrom 1 3).tail
  have h3 := (push_pool h2 (x := 1) (by omega) (by omega) (by decide)).1
  have k3 := k2.push 2 1
  have k4 := k3.popW 2 (1 :: (upFrom 1 3).tail.tail)
  have e0 : (upFrom 1 3).headD 0 = 1 := rfl
  have e1 : (upFrom 1 3).tail.headD 0 = 2 := rfl
  have e3 : (1 :: (upFrom 1 3).tail.tail).headD 0 = (1 : Int) := rfl
  generalize upFrom 1 3 = L0 at *
  have hnew := ranew_yes 2 3 (by omega) (by omega) (by omega) w
  generalize newW 2 3 = X0 at *
  generalize hX1 : popW X0 2 L0 = X1 at *
  generalize hX2 : popW X1 2 L0.tail = X2 at *
  generalize hX3 : pushX X2 2 1 = X3 at *
  generalize hX4 : popW X3 2 (1 :: L0.tail.tail) = X4 at *
  have HX1 := Lib.hid hX1
  have HX2 := Lib.hid hX2
  have HX3 := Lib.hid hX3
  have HX4 := Lib.hid hX4
  clear hX1 hX2 hX3 hX4
  go_enter Try.func15, Try.ntmps15
  have hW : Ext w w := Ext.refl w
  go_wp2_with fail
  refine (hnew).mono ?_
  rintro e w_a ⟨v_, rfl, hVa, hx_⟩
  obtain ⟨aA, aq, ac, aB, ab, aC, ad, rfl⟩ := hVa.form6
  replace hW := hW.trans hx_
  clear hx_
  go_upto_region 2 with (fail)
  have hx_ : Ext w_a (w_a.alloc (.cells #[.int .i64 X0.T, .int .i64 X0.C, .slice aA aq ac, .int .u64 X0.R, .slice aB X0.n ab, .slice aC X0.n ad] 51)) := (Below.refl _ w_a).alloc (Nat.le_refl _) _
  have hba := heap_alloc_new w_a (.cells #[.int .i64 X0.T, .int .i64 X0.C, .slice aA aq ac, .int .u64 X0.R, .slice aB X0.n ab, .slice aC X0.n ad] 51)
  generalize w_a.alloc (.cells #[.int .i64 X0.T, .int .i64 X0.C, .slice aA aq ac, .int .u64 X0.R, .slice aB X0.n ab, .slice aC X0.n ad] 51) = W1 at *
  generalize w_a.heap.size = ga at *
  replace hVa := hVa.ext hx_
  replace hW := hW.trans hx_
  clear hx_
  have z0 : W1.cell? ⟨ga, 0, none⟩ = some (.int .i64 X0.T) := by simp [World.cell?, hba]
  have z1 : W1.cell? ⟨ga, 1, none⟩ = some (.int .i64 X0.C) := by simp [World.cell?, hba]
  have z2 : W1.cell? ⟨ga, 2, none⟩ = some (.slice aA aq ac) := by simp [World.cell?, hba]
  have z3 : W1.cell? ⟨ga, 3, none⟩ = some (.int .u64 X0.R) := by simp [World.cell?, hba]
  have z4 : W1.cell? ⟨ga, 4, none⟩ = some (.slice aB X0.n ab) := by simp [World.cell?, hba]
  have z5 : W1.cell? ⟨ga, 5, none⟩ = some (.slice aC X0.n ad) := by simp [World.cell?, hba]
  go_wp2_with fail
  have hcon := pal_pop X0 2 3 _ h0 k0 _ 0 0 0 0 9 9 rfl (by omega) (by omega) _ hVa
  rw [e0] at hcon
  rw [HX1.out] at hcon
  refine hcon.mono ?_
  clear hcon
  rintro e w_b ⟨v_, rfl, hVb, hx_⟩
  replace hVb : WldV w_b _ X1 := hVb
  obtain ⟨bA, bq, bc, bB, bb, bC, bd, rfl⟩ := hVb.form6
  clear z0 z1 z2 z3 z4 z5
  replace hba := heap_ext hba hx_
  replace hVa := hVa.ext hx_
  replace hW := hW.trans hx_
  clear hx_
  go_upto_region 3 with (fail)
  obtain ⟨hx_, hbb, hob⟩ := two_boxes7 w_b (.cells #[.int .i64 X1.T, .int .i64 X1.C, .slice bA bq bc, .int .u64 X1.R, .slice bB X1.n bb, .slice bC X1.n bd] 51) (.cells #[.int .i64 0, .bool false, .int .i64 1, .int .u64 0, .slice none 0 0] 37)
  generalize (w_b.alloc (.cells #[.int .i64 X1.T, .int .i64 X1.C, .slice bA bq bc, .int .u64 X1.R, .slice bB X1.n bb, .slice bC X1.n bd] 51)).alloc (.cells #[.int .i64 0, .bool false, .int .i64 1, .int .u64 0, .slice none 0 0] 37) = Wb at *
  generalize w_b.heap.size = gb at *
  replace hba := heap_ext hba hx_
  replace hVa := hVa.ext hx_
  replace hVb := hVb.ext hx_
  replace hW := hW.trans hx_
  clear hx_
  clear hba hVa
  have z0 : Wb.cell? ⟨gb, 0, none⟩ = some (.int .i64 X1.T) := by simp [World.cell?, hbb]
  have z1 : Wb.cell? ⟨gb, 1, none⟩ = some (.int .i64 X1.C) := by simp [World.cell?, hbb]
  have z2 : Wb.cell? ⟨gb, 2, none⟩ = some (.slice bA bq bc) := by simp [World.cell?, hbb]
  have z3 : Wb.cell? ⟨gb, 3, none⟩ = some (.int .u64 X1.R) := by simp [World.cell?, hbb]
  have z4 : Wb.cell? ⟨gb, 4, none⟩ = some (.slice bB X1.n bb) := by simp [World.cell?, hbb]
  have z5 : Wb.cell? ⟨gb, 5, none⟩ = some (.slice bC X1.n bd) := by simp [World.cell?, hbb]
  go_wp2_with fail
  have hcon := pal_pop X1 2 3 _ h1 k1 _ 1 0 0 0 9 9 rfl (by omega) (by omega) _ hVb
  rw [e1] at hcon
  rw [HX2.out] at hcon
  refine hcon.mono ?_
  clear hcon
  rintro e w_c ⟨v_, rfl, hVc, hx_⟩
  replace hVc : WldV w_c _ X2 := hVc
  obtain ⟨cA, cq, cc, cB, cb, cC, cd, rfl⟩ := hVc.form6
  clear z0 z1 z2 z3 z4 z5
  replace hbb := heap_ext hbb hx_
  replace hob := heap_ext hob hx_
  replace hVb := hVb.ext hx_
  replace hW := hW.trans hx_
  clear hx_
  go_upto_region 4 with (fail)
  obtain ⟨hx_, hbc, hoc⟩ := two_boxes7 w_c (.cells #[.int .i64 X2.T, .int .i64 X2.C, .slice cA cq cc, .int .u64 X2.R, .slice cB X2.n cb, .slice cC X2.n cd] 51) (.cells #[.int .i64 0, .bool false, .int .i64 2, .int .u64 0, .slice none 0 0] 37)
  generalize (w_c.alloc (.cells #[.int .i64 X2.T, .int .i64 X2.C, .slice cA cq cc, .int .u64 X2.R, .slice cB X2.n cb, .slice cC X2.n cd] 51)).alloc (.cells #[.int .i64 0, .bool false, .int .i64 2, .int .u64 0, .slice none 0 0] 37) = Wc at *
  generalize w_c.heap.size = gc at *
  replace hbb := heap_ext hbb hx_
  replace hob := heap_ext hob hx_
  replace hVb := hVb.ext hx_
  replace hVc := hVc.ext hx_
  replace hW := hW.trans hx_
  clear hx_
  clear hbb hVb
  have z0 : Wc.cell? ⟨gc, 0, none⟩ = some (.int .i64 X2.T) := by simp [World.cell?, hbc]
  have z1 : Wc.cell? ⟨gc, 1, none⟩ = some (.int .i64 X2.C) := by simp [World.cell?, hbc]
  have z2 : Wc.cell? ⟨gc, 2, none⟩ = some (.slice cA cq cc) := by simp [World.cell?, hbc]
  have z3 : Wc.cell? ⟨gc, 3, none⟩ = some (.int .u64 X2.R) := by simp [World.cell?, hbc]
  have z4 : Wc.cell? ⟨gc, 4, none⟩ = some (.slice cB X2.n cb) := by simp [World.cell?, hbc]
  have z5 : Wc.cell? ⟨gc, 5, none⟩ = some (.slice cC X2.n cd) := by simp [World.cell?, hbc]
  go_wp2_with fail
  have hcon := pal_push X2 2 3 h2.dim k2 _ 0 1 0 0 9 (by omega) (by omega) 9 rfl (by omega) (by omega) _ hVc
  rw [HX3.out] at hcon
  refine hcon.mono ?_
  clear hcon
  rintro e w_d ⟨v_, rfl, hVd, hx_⟩
  replace hVd : WldV w_d _ X3 := hVd
  obtain ⟨dA, dq, dc, dB, db, dC, dd, rfl⟩ := hVd.form6
  clear z0 z1 z2 z3 z4 z5
  replace hob := heap_ext hob hx_
  replace hbc := heap_ext hbc hx_
  replace hoc := heap_ext hoc hx_
  replace hVc := hVc.ext hx_
  replace hW := hW.trans hx_
  clear hx_
  go_upto_region 5 with (fail)
  obtain ⟨hx_, hbd, hod⟩ := two_boxes7 w_d (.cells #[.int .i64 X3.T, .int .i64 X3.C, .slice dA dq dc, .int .u64 X3.R, .slice dB X3.n db, .slice dC X3.n dd] 51) (.cells #[.int .i64 0, .bool false, .int .i64 0, .int .u64 0, .slice none 0 0] 37)
  generalize (w_d.alloc (.cells #[.int .i64 X3.T, .int .i64 X3.C, .slice dA dq dc, .int .u64 X3.R, .slice dB X3.n db, .slice dC X3.n dd] 51)).alloc (.cells #[.int .i64 0, .bool false, .int .i64 0, .int .u64 0, .slice none 0 0] 37) = Wd at *
  generalize w_d.heap.size = gd at *
  replace hob := heap_ext hob hx_
  replace hbc := heap_ext hbc hx_
  replace hoc := heap_ext hoc hx_
  replace hVc := hVc.ext hx_
  replace hVd := hVd.ext hx_
  replace hW := hW.trans hx_
  clear hx_
  clear hbc hVc
  have z0 : Wd.cell? ⟨gd, 0, none⟩ = some (.int .i64 X3.T) := by simp [World.cell?, hbd]
  have z1 : Wd.cell? ⟨gd, 1, none⟩ = some (.int .i64 X3.C) := by simp [World.cell?, hbd]
  have z2 : Wd.cell? ⟨gd, 2, none⟩ = some (.slice dA dq dc) := by simp [World.cell?, hbd]
  have z3 : Wd.cell? ⟨gd, 3, none⟩ = some (.int .u64 X3.R) := by simp [World.cell?, hbd]
  have z4 : Wd.cell? ⟨gd, 4, none⟩ = some (.slice dB X3.n db) := by simp [World.cell?, hbd]
  have z5 : Wd.cell? ⟨gd, 5, none⟩ = some (.slice dC X3.n dd) := by simp [World.cell?, hbd]
  go_wp2_with fail
  have hcon := pal_pop X3 2 3 _ h3 k3 _ 1 0 0 0 9 9 rfl (by omega) (by omega) _ hVd
  rw [e3] at hcon
  rw [HX4.out] at hcon
  refine hcon.mono ?_
  clear hcon
  rintro e w_e ⟨v_, rfl, hVe, hx_⟩
  replace hVe : WldV w_e _ X4 := hVe
  obtain ⟨eA, eq, ec, eB, eb, eC, ed, rfl⟩ := hVe.form6
  clear z0 z1 z2 z3 z4 z5
  replace hob := heap_ext hob hx_
  replace hoc := heap_ext hoc hx_
  replace hbd := heap_ext hbd hx_
  replace hod := heap_ext hod hx_
  replace hVd := hVd.ext hx_
  replace hW := hW.trans hx_
  clear hx_
  go_upto_region 6 with (fail)
  obtain ⟨hx_, hbe, hoe⟩ := two_boxes7 w_e (.cells #[.int .i64 X4.T, .int .i64 X4.C, .slice eA eq ec, .int .u64 X4.R, .slice eB X4.n eb, .slice eC X4.n ed] 51) (.cells #[.int .i64 0, .bool false, .int .i64 1, .int .u64 0, .slice none 0 0] 37)
  generalize (w_e.alloc (.cells #[.int .i64 X4.T, .int .i64 X4.C, .slice eA eq ec, .int .u64 X4.R, .slice eB X4.n eb, .slice eC X4.n ed] 51)).alloc (.cells #[.int .i64 0, .bool false, .int .i64 1, .int .u64 0, .slice none 0 0] 37) = We at *
  generalize w_e.heap.size = ge at *
  replace hob := heap_ext hob hx_
  replace hoc := heap_ext hoc hx_
  replace hbd := heap_ext hbd hx_
  replace hod := heap_ext hod hx_
  replace hVd := hVd.ext hx_
  replace hVe := hVe.ext hx_
  replace hW := hW.trans hx_
  clear hx_
  clear hbd hVd
  go_wp2_with fail
  refine (pnext_any 2 3 0 0 0 0 0 (by omega) (by omega) (by omega) none 0 0 [] _ (log_nil _) (fun r hr => by cases hr)).mono ?_
  rintro e w_f ⟨rfl, hx_⟩
  rw [show poolN 2 0 0 (([] : List Res).map Res.n) = .done ⟨1, false, 0, 0⟩ from rfl]
  simp only [NextE.fin, accZero, OutN.cells]
  replace hob := heap_ext hob hx_
  replace hoc := heap_ext hoc hx_
  replace hod := heap_ext hod hx_
  replace hbe := heap_ext hbe hx_
  replace hoe := heap_ext hoe hx_
  replace hVe := hVe.ext hx_
  replace hW := hW.trans hx_
  clear hx_
  go_upto_region 7 with (fail)
  obtain ⟨hx_, hbf, hof⟩ := two_boxes7 w_f (.cells #[.int .i64 0, .int .i64 0, .int .u64 0, .int .u64 0, .slice none 0 0, .slice none 0 0] 33) (.cells #[.int .i64 1, .bool false, .int .i64 0, .int .u64 0, .slice none 0 0] 37)
  generalize (w_f.alloc (.cells #[.int .i64 0, .int .i64 0, .int .u64 0, .int .u64 0, .slice none 0 0, .slice none 0 0] 33)).alloc (.cells #[.int .i64 1, .bool false, .int .i64 0, .int .u64 0, .slice none 0 0] 37) = Wf at *
  generalize w_f.heap.size = gf at *
  replace hob := heap_ext hob hx_
  replace hoc := heap_ext hoc hx_
  replace hod := heap_ext hod hx_
  replace hbe := heap_ext hbe hx_
  replace hoe := heap_ext hoe hx_
  replace hVe := hVe.ext hx_
  replace hW := hW.trans hx_
  clear hx_
  have b0 : Wf.cell? ⟨gb + 1, 0, none⟩ = some (.int .i64 0) := by simp [World.cell?, hob]
  have b1 : Wf.cell? ⟨gb + 1, 1, none⟩ = some (.bool false) := by simp [World.cell?, hob]
  have b2 : Wf.cell? ⟨gb + 1, 2, none⟩ = some (.int .i64 1) := by simp [World.cell?, hob]
  have b3 : Wf.cell? ⟨gb + 1, 3, none⟩ = some (.int .u64 0) := by simp [World.cell?, hob]
  have b4 : Wf.cell? ⟨gb + 1, 4, none⟩ = some (.slice none 0 0) := by simp [World.cell?, hob]
  have c0 : Wf.cell? ⟨gc + 1, 0, none⟩ = some (.int .i64 0) := by simp [World.cell?, hoc]
  have c1 : Wf.cell? ⟨gc + 1, 1, none⟩ = some (.bool false) := by simp [World.cell?, hoc]
  have c2 : Wf.cell? ⟨gc + 1, 2, none⟩ = some (.int .i64 2) := by simp [World.cell?, hoc]
  have c3 : Wf.cell? ⟨gc + 1, 3, none⟩ = some (.int .u64 0) := by simp [World.cell?, hoc]
  have c4 : Wf.cell? ⟨gc + 1, 4, none⟩ = some (.slice none 0 0) := by simp [World.cell?, hoc]
  have e0 : Wf.cell? ⟨ge + 1, 0, none⟩ = some (.int .i64 0) := by simp [World.cell?, hoe]
  have e1 : Wf.cell? ⟨ge + 1, 1, none⟩ = some (.bool false) := by simp [World.cell?, hoe]
  have e2 : Wf.cell? ⟨ge + 1, 2, none⟩ = some (.int .i64 1) := by simp [World.cell?, hoe]
  have e3 : Wf.cell? ⟨ge + 1, 3, none⟩ = some (.int .u64 0) := by simp [World.cell?, hoe]
  have e4 : Wf.cell? ⟨ge + 1, 4, none⟩ = some (.slice none 0 0) := by simp [World.cell?, hoe]
  have f0 : Wf.cell? ⟨gf + 1, 0, none⟩ = some (.int .i64 1) := by simp [World.cell?, hof]
  have f1 : Wf.cell? ⟨gf + 1, 1, none⟩ = some (.bool false) := by simp [World.cell?, hof]
  have f2 : Wf.cell? ⟨gf + 1, 2, none⟩ = some (.int .i64 0) := by simp [World.cell?, hof]
  have f3 : Wf.cell? ⟨gf + 1, 3, none⟩ = some (.int .u64 0) := by simp [World.cell?, hof]
  have f4 : Wf.cell? ⟨gf + 1, 4, none⟩ = some (.slice none 0 0) := by simp [World.cell?, hof]
  go_wp2
  go_ret
  exact ⟨rfl, hW⟩
end Go.Proofs.Ytkdjmfaodojmfaa

namespace Go.Proofs.Ytkdjmfaodojmfaa
open Go.RowKit

/-! wealdref11: a log that is gone through. -/
def Res.zero : Res := ⟨0, none, 0, 0, false⟩
/-- how far a log is gone through, whether it stopped, and what is asked -/
structure Cu where
  i : Nat
  stop : Bool
  x : Acc
def Cu.told (rs : List Res) (s : Cu) : Res := if s.stop then Res.zero else (rs[s.i]?).getD Res.zero
def Cu.next (rs : List Res) (y : Acc) (s : Cu) : Cu := if s.stop then s else if s.i < rs.length then ⟨s.i + 1, false, s.x⟩ else ⟨s.i, true, y⟩
def curCells (A : Option Addr) (n c : Nat) (s : Cu) : List Value := [.slice A n c, .int .i64 s.i, .bool s.stop, .int .i64 s.x.kind, .int .i64 s.x.cell, .int .u64 s.x.a, .int .u64 s.x.b, .slice s.x.D s.x.dk s.x.dc, .slice s.x.W s.x.wk s.x.wc]
def CurAt (w : World) (g : Nat) (A : Option Addr) (n c : Nat) (s : Cu) : Prop := w.heap[g]? = some (.cells (curCells A n c s).toArray 142 (0, 0))
theorem list_toArray (l : List Value) : l.toArray = l.toArray := rfl
set_option maxRecDepth 100000 in
set_option maxHeartbeats 4000000 in
theorem rdo_any (y : Acc) (g : Nat) (A : Option Addr) (n c : Nat) (s : Cu) (rs : List Res) (w : World) (hlog : LogV w A n c rs) (hsep : ∀ a, A = some a → 0 < n → a.block ≠ g) (hcur : CurAt w g A n c s) :
    Calls Try.prog 117 #[.pointer (some ⟨g, 0, none⟩), .agg y.cells] w fun e w' => e = .returned (.agg #[.int .u64 (s.told rs).n, .slice (s.told rs).A (s.told rs).k (s.told rs).c, .bool (s.told rs).fail]) ∧ CurAt w' g A n c (s.next rs y) ∧ ExtB g w w' := by
  obtain ⟨y0, y1, y2, y3, y4, y5, y6, y7, y8, y9⟩ := y
  obtain ⟨i, stop, ⟨x0, x1, x2, x3, x4, x5, x6, x7, x8, x9⟩⟩ := s
  have hb0 : ∀ W : World, (Instr.build 130 #[]).run Try.prog W = .ok (.agg #[.int .u64 0, .slice none 0 0, .bool false]) W := fun _ => by kernel_rfl
  have hlen := hlog.len
  have hn := hlog.small
  have hcg : g < w.heap.size := (Array.getElem?_eq_some_iff.1 hcur).1
  simp only [Acc.cells]
  have hW : Ext w ((w.alloc (.cells #[.int .i64 y0, .int .i64 y1, .int .u64 y2, .int .u64 y3, .slice y4 y5 y6, .slice y7 y8 y9] 33)).alloc (.cells #[.int .u64 0, .slice none 0 0, .bool false] 130)) := ((Below.refl _ w).alloc (Nat.le_refl _) _).alloc (by simp) _
  have hy : ((w.alloc (.cells #[.int .i64 y0, .int .i64 y1, .int .u64 y2, .int .u64 y3, .slice y4 y5 y6, .slice y7 y8 y9] 33)).alloc (.cells #[.int .u64 0, .slice none 0 0, .bool false] 130)).heap[w.heap.size]? = some (.cells #[.int .i64 y0, .int .i64 y1, .int .u64 y2, .int .u64 y3, .slice y4 y5 y6, .slice y7 y8 y9] 33 (0, 0)) := by
    rw [Below.heap_alloc _ _ _ (by simp)]; exact heap_alloc_new w _
  have hr : ((w.alloc (.cells #[.int .i64 y0, .int .i64 y1, .int .u64 y2, .int .u64 y3, .slice y4 y5 y6, .slice y7 y8 y9] 33)).alloc (.cells #[.int .u64 0, .slice none 0 0, .bool false] 130)).heap[w.heap.size + 1]? = some (.cells #[.int .u64 0, .slice none 0 0, .bool false] 130 (0, 0)) := by
    simpa using heap_alloc_new (w.alloc (.cells #[.int .i64 y0, .int .i64 y1, .int .u64 y2, .int .u64 y3, .slice y4 y5 y6, .slice y7 y8 y9] 33)) (.cells #[.int .u64 0, .slice none 0 0, .bool false] 130)
  go_enter Try.func117, Try.ntmps117
  go_upto_region 1 with (fail)
  generalize (w.alloc (.cells #[.int .i64 y0, .int .i64 y1, .int .u64 y2, .int .u64 y3, .slice y4 y5 y6, .slice y7 y8 y9] 33)).alloc (.cells #[.int .u64 0, .slice none 0 0, .bool false] 130) = W at *
  have hcw : W.heap[g]? = some (.cells #[.slice A n c, .int .i64 i, .bool stop, .int .i64 x0, .int .i64 x1, .int .u64 x2, .int .u64 x3, .slice x4 x5 x6, .slice x7 x8 x9] 142 (0, 0)) := heap_ext hcur hW
  have c0 : W.cell? ⟨g, 0, none⟩ = some (.slice A n c) := by simp [World.cell?, hcw]
  have cf0 : W.frozen? ⟨g, 0, none⟩ = false := by simp [World.frozen?, hcw]
  have c1 : W.cell? ⟨g, 1, none⟩ = some (.int .i64 i) := by simp [World.cell?, hcw]
  have cf1 : W.frozen? ⟨g, 1, none⟩ = false := by simp [World.frozen?, hcw]
  have c2 : W.cell? ⟨g, 2, none⟩ = some (.bool stop) := by simp [World.cell?, hcw]
  have cf2 : W.frozen? ⟨g, 2, none⟩ = false := by simp [World.frozen?, hcw]
  have c3 : W.cell? ⟨g, 3, none⟩ = some (.int .i64 x0) := by simp [World.cell?, hcw]
  have cf3 : W.frozen? ⟨g, 3, none⟩ = false := by simp [World.frozen?, hcw]
  have c4 : W.cell? ⟨g, 4, none⟩ = some (.int .i64 x1) := by simp [World.cell?, hcw]
  have cf4 : W.frozen? ⟨g, 4, none⟩ = false := by simp [World.frozen?, hcw]
  have c5 : W.cell? ⟨g, 5, none⟩ = some (.int .u64 x2) := by simp [World.cell?, hcw]
  have cf5 : W.frozen? ⟨g, 5, none⟩ = false := by simp [World.frozen?, hcw]
  have c6 : W.cell? ⟨g, 6, none⟩ = some (.int .u64 x3) := by simp [World.cell?, hcw]
  have cf6 : W.frozen? ⟨g, 6, none⟩ = false := by simp [World.frozen?, hcw]
  have c7 : W.cell? ⟨g, 7, none⟩ = some (.slice x4 x5 x6) := by simp [World.cell?, hcw]
  have cf7 : W.frozen? ⟨g, 7, none⟩ = false := by simp [World.frozen?, hcw]
  have c8 : W.cell? ⟨g, 8, none⟩ = some (.slice x7 x8 x9) := by simp [World.cell?, hcw]
  have cf8 : W.frozen? ⟨g, 8, none⟩ = false := by simp [World.frozen?, hcw]
  have r0 : W.cell? ⟨w.heap.size + 1, 0, none⟩ = some (.int .u64 0) := by simp [World.cell?, hr]
  have rf0 : W.frozen? ⟨w.heap.size + 1, 0, none⟩ = false := by simp [World.frozen?, hr]
  have r1 : W.cell? ⟨w.heap.size + 1, 1, none⟩ = some (.slice none 0 0) := by simp [World.cell?, hr]
  have rf1 : W.frozen? ⟨w.heap.size + 1, 1, none⟩ = false := by simp [World.frozen?, hr]
  have r2 : W.cell? ⟨w.heap.size + 1, 2, none⟩ = some (.bool false) := by simp [World.cell?, hr]
  have rf2 : W.frozen? ⟨w.heap.size + 1, 2, none⟩ = false := by simp [World.frozen?, hr]
  have z0 : W.cell? ⟨w.heap.size, 0, none⟩ = some (.int .i64 y0) := by simp [World.cell?, hy]
  have z1 : W.cell? ⟨w.heap.size, 1, none⟩ = some (.int .i64 y1) := by simp [World.cell?, hy]
  have z2 : W.cell? ⟨w.heap.size, 2, none⟩ = some (.int .u64 y2) := by simp [World.cell?, hy]
  have z3 : W.cell? ⟨w.heap.size, 3, none⟩ = some (.int .u64 y3) := by simp [World.cell?, hy]
  have z4 : W.cell? ⟨w.heap.size, 4, none⟩ = some (.slice y4 y5 y6) := by simp [World.cell?, hy]
  have z5 : W.cell? ⟨w.heap.size, 5, none⟩ = some (.slice y7 y8 y9) := by simp [World.cell?, hy]
  have HC := Lib.hid hcw
  have HR := Lib.hid hr
  have HY := Lib.hid hy
  clear hcw hr hy hcur
  have hX : ∀ wx, Ext W wx → wx.cell? ⟨g, 0, none⟩ = some (.slice A n c) ∧ wx.cell? ⟨g, 1, none⟩ = some (.int .i64 i) ∧ wx.frozen? ⟨g, 1, none⟩ = false ∧ wx.heap[g]? = some (.cells #[.slice A n c, .int .i64 i, .bool stop, .int .i64 x0, .int .i64 x1, .int .u64 x2, .int .u64 x3, .slice x4 x5 x6, .slice x7 x8 x9] 142 (0, 0)) ∧ wx.heap[w.heap.size + 1]? = some (.cells #[.int .u64 0, .slice none 0 0, .bool false] 130 (0, 0)) ∧ wx.heap[w.heap.size]? = some (.cells #[.int .i64 y0, .int .i64 y1, .int .u64 y2, .int .u64 y3, .slice y4 y5 y6, .slice y7 y8 y9] 33 (0, 0)) := fun wx hx =>
    ⟨hx.cell c0, hx.cell c1, by have := heap_ext HC.out hx; simp [World.frozen?, this], heap_ext HC.out hx, heap_ext HR.out hx, heap_ext HY.out hx⟩
  cases stop with
  | true =>
    go_wp2
    refine bodyPost_ret (v := .agg #[.int .u64 0, .slice none 0 0, .bool false]) (by simp [results, Try.results117, go_sem, r0, r1, r2]) rfl ⟨rfl, ?_, ?_⟩
    · have h1 := (setAll_other (g := w.heap.size + 1) (k := g) (by omega) [.int .u64 0, .slice none 0 0, .bool false] 0 W).trans HC.out
      exact h1
    · exact ExtB.of (setAll_ext (g := w.heap.size + 1) (vs := [.int .u64 0, .slice none 0 0, .bool false]) (i := 0) hW (by omega))
  | false =>
    rcases Nat.lt_or_ge i rs.length with hi | hi
    · have hlt : (i : Int) < (n : Int) := by omega
      obtain ⟨a, rfl, hra⟩ := hlog.at_ i (rs[i]'hi) (List.getElem?_eq_getElem _)
      have hrs : rs[i]? = some (rs[i]'hi) := List.getElem?_eq_getElem _
      generalize rs[i]'hi = r at *
      obtain ⟨rn, rA, rk, rc, rf⟩ := r
      obtain ⟨q0, q1, q2⟩ := hra
      have hag := hsep a rfl (by omega)
      go_upto_region 3 with (fail)
      clear c0 c1 c2 c3 c4 c5 c6 c7 c8 cf0 cf1 cf2 cf3 cf4 cf5 cf6 cf7 cf8 r0 r1 r2 rf0 rf1 rf2 z0 z1 z2 z3 z4 z5
      refine' wp_region_sure_all ⟨((some 10, [], none) :: (some 11, [0], none) :: (some 12, [1], none) :: (some 13, [2], none) :: (some 14, [], none) :: (some 15, [4], none) :: (some 16, [5], none) :: (some 17, [6], none) :: (some 18, [7], none) :: (some 19, [3, 8], none) :: []), (0 :: 1 :: 3 :: 7 :: 0 :: 16 :: 48 :: 112 :: 240 :: 511 :: []), (true :: true :: true :: true :: true :: true :: true :: true :: true :: true :: []), [], 0⟩ 10 47 ((0, 10) :: (1, 11) :: (2, 12) :: (3, 13) :: (4, 14) :: (5, 15) :: (6, 16) :: (7, 17) :: (8, 18) :: (9, 19) :: []) ((0, 10) :: (1, 11) :: (2, 12) :: (3, 13) :: (4, 14) :: (5, 15) :: (6, 16) :: (7, 17) :: (8, 18) :: (9, 19) :: []) (.det _ :: .det _ :: .det _ :: .det _ :: .det _ :: .det _ :: .det _ :: .det _ :: .det _ :: .det _ :: []) (by kernel_rfl) (by kernel_rfl) (by kernel_rfl) rfl (by kernel_rfl) (by kernel_rfl) rfl (by kernel_rfl) ?hone ?hend
      case hone =>
        intro CS frS VS hCS ha hV
        have qs0 := slot_val (t := 0) ha rfl
        simp only [List.getElem_toArray, List.getElem_cons_succ, List.getElem_cons_zero] at qs0
        have HCS := Lib.hid hCS
        have HVS := Lib.hid hV
        clear ha hCS hV
        -- 0: slot 10 := Op.move t0
        refine sure_det (js := []) (ts := [0]) (gd := none) (place_at HVS.out (k := 0) rfl) (by rw [HCS.out]; kernel_rfl) ?_ ?_
        · intro wx hx ρ hρ hs hf
          have hρc := hρ.const
          have hρf := hρ.func
          obtain ⟨fx0, -⟩ := hf
          rw [qs0] at fx0
          clear hs
          clear HCS HVS qs0
          refine run_plain ?_
          refine op_move rfl fx0 ?_
          exact detK.mk
        -- 1: slot 11 := Op.nilCheck t10
        refine sure_det (js := [(0, 10)]) (ts := []) (gd := none) (place_at HVS.out (k := 1) rfl) (by rw [HCS.out]; kernel_rfl) ?_ ?_
        · intro wx hx ρ hρ hs hf
          have hρc := hρ.const
          have hρf := hρ.func
          obtain ⟨sn0, -⟩ := hs
          rw [place_at HVS.out (k := 0) rfl] at sn0
          replace sn0 : ρ (.tmp 10) = _ := sn0
          clear hf
          clear HCS HVS qs0
          refine run_plain ?_
          unfold runs
          go_simp
          exact detK.mk
        -- 2: slot 12 := Op.fieldAddr 142 t11 1
        refine sure_det (js := [(1, 11)]) (ts := []) (gd := none) (place_at HVS.out (k := 2) rfl) (by rw [HCS.out]; kernel_rfl) ?_ ?_
        · intro wx hx ρ hρ hs hf
          have hρc := hρ.const
          have hρf := hρ.func
          obtain ⟨sn1, -⟩ := hs
          rw [place_at HVS.out (k := 1) rfl] at sn1
          replace sn1 : ρ (.tmp 11) = _ := sn1
          clear hf
          clear HCS HVS qs0
          refine run_plain ?_
          unfold runs
          go_simp
          exact detK.mk
        -- 3: slot 13 := Op.load 3 t12
        refine sure_det (js := [(2, 12)]) (ts := []) (gd := none) (place_at HVS.out (k := 3) rfl) (by rw [HCS.out]; kernel_rfl) ?_ ?_
        · intro wx hx ρ hρ hs hf
          have hρc := hρ.const
          have hρf := hρ.func
          obtain ⟨sn2, -⟩ := hs
          rw [place_at HVS.out (k := 2) rfl] at sn2
          replace sn2 : ρ (.tmp 12) = _ := sn2
          clear hf
          clear HCS HVS qs0
          refine run_plain ?_
          obtain ⟨c0, c1, -⟩ := hX wx hx.drawn
          unfold runs
          go_simp
          exact detK.mk
        -- 4: slot 14 := Op.move t0
        refine sure_det (js := []) (ts := [0]) (gd := none) (place_at HVS.out (k := 4) rfl) (by rw [HCS.out]; kernel_rfl) ?_ ?_
        · intro wx hx ρ hρ hs hf
          have hρc := hρ.const
          have hρf := hρ.func
          obtain ⟨fx0, -⟩ := hf
          rw [qs0] at fx0
          clear hs
          clear HCS HVS qs0
          refine run_plain ?_
          refine op_move rfl fx0 ?_
          exact detK.mk
        -- 5: slot 15 := Op.nilCheck t14
        refine sure_det (js := [(4, 14)]) (ts := []) (gd := none) (place_at HVS.out (k := 5) rfl) (by rw [HCS.out]; kernel_rfl) ?_ ?_
        · intro wx hx ρ hρ hs hf
          have hρc := hρ.const
          have hρf := hρ.func
          obtain ⟨sn4, -⟩ := hs
          rw [place_at HVS.out (k := 4) rfl] at sn4
          replace sn4 : ρ (.tmp 14) = _ := sn4
          clear hf
          clear HCS HVS qs0
          refine run_plain ?_
          unfold runs
          go_simp
          exact detK.mk
        -- 6: slot 16 := Op.fieldAddr 142 t15 0
        refine sure_det (js := [(5, 15)]) (ts := []) (gd := none) (place_at HVS.out (k := 6) rfl) (by rw [HCS.out]; kernel_rfl) ?_ ?_
        · intro wx hx ρ hρ hs hf
          have hρc := hρ.const
          have hρf := hρ.func
          obtain ⟨sn5, -⟩ := hs
          rw [place_at HVS.out (k := 5) rfl] at sn5
          replace sn5 : ρ (.tmp 15) = _ := sn5
          clear hf
          clear HCS HVS qs0
          refine run_plain ?_
          unfold runs
          go_simp
          exact detK.mk
        -- 7: slot 17 := Op.load 25 t16
        refine sure_det (js := [(6, 16)]) (ts := []) (gd := none) (place_at HVS.out (k := 7) rfl) (by rw [HCS.out]; kernel_rfl) ?_ ?_
        · intro wx hx ρ hρ hs hf
          have hρc := hρ.const
          have hρf := hρ.func
          obtain ⟨sn6, -⟩ := hs
          rw [place_at HVS.out (k := 6) rfl] at sn6
          replace sn6 : ρ (.tmp 16) = _ := sn6
          clear hf
          clear HCS HVS qs0
          refine run_plain ?_
          obtain ⟨c0, c1, -⟩ := hX wx hx.drawn
          unfold runs
          go_simp
          exact detK.mk
        -- 8: slot 18 := Op.call { len, args := #[t17], argTypes := #[25] }
        refine sure_det (js := [(7, 17)]) (ts := []) (gd := none) (place_at HVS.out (k := 8) rfl) (by rw [HCS.out]; kernel_rfl) ?_ ?_
        · intro wx hx ρ hρ hs hf
          have hρc := hρ.const
          have hρf := hρ.func
          obtain ⟨sn7, -⟩ := hs
          rw [place_at HVS.out (k := 7) rfl] at sn7
          replace sn7 : ρ (.tmp 17) = _ := sn7
          clear hf
          clear HCS HVS qs0
          refine run_plain ?_
          unfold runs
          go_simp
          exact detK.mk
        -- 9: slot 19 := Op.binOp BinOp.lss 3 t13 t18 3
        refine sure_det (js := [(3, 13), (8, 18)]) (ts := []) (gd := none) (place_at HVS.out (k := 9) rfl) (by rw [HCS.out]; kernel_rfl) ?_ ?_
        · intro wx hx ρ hρ hs hf
          have hρc := hρ.const
          have hρf := hρ.func
          obtain ⟨sn3, sn8, -⟩ := hs
          rw [place_at HVS.out (k := 3) rfl] at sn3
          replace sn3 : ρ (.tmp 13) = _ := sn3
          rw [place_at HVS.out (k := 8) rfl] at sn8
          replace sn8 : ρ (.tmp 18) = _ := sn8
          clear hf
          clear HCS HVS qs0
          refine run_plain ?_
          unfold runs
          go_simp
          exact detK.mk
        exact trivial
      case hend =>
        intro xs wx hx hg
        have gk0 : xs 0 = _ := goods_get hg (i := 0) (j := 0) (d := 10) rfl
        have gk1 : xs 1 = _ := goods_get hg (i := 1) (j := 1) (d := 11) rfl
        have gk2 : xs 2 = _ := goods_get hg (i := 2) (j := 2) (d := 12) rfl
        have gk3 : xs 3 = _ := goods_get hg (i := 3) (j := 3) (d := 13) rfl
        have gk4 : xs 4 = _ := goods_get hg (i := 4) (j := 4) (d := 14) rfl
        have gk5 : xs 5 = _ := goods_get hg (i := 5) (j := 5) (d := 15) rfl
        have gk6 : xs 6 = _ := goods_get hg (i := 6) (j := 6) (d := 16) rfl
        have gk7 : xs 7 = _ := goods_get hg (i := 7) (j := 7) (d := 17) rfl
        have gk8 : xs 8 = _ := goods_get hg (i := 8) (j := 8) (d := 18) rfl
        have gk9 : xs 9 = _ := goods_get hg (i := 9) (j := 9) (d := 19) rfl
        clear hg
        simp only [putAll, gk0, gk1, gk2, gk3, gk4, gk5, gk6, gk7, gk8, gk9]
        clear gk0 gk1 gk2 gk3 gk4 gk5 gk6 gk7 gk8 gk9
        clear xs
        simp only [Act.put, List.setIfInBounds_toArray, List.set_cons_zero, List.set_cons_succ]
        obtain ⟨c0, c1, cf1, hg1, hr1, hy1⟩ := hX wx hx.drawn
        go_upto_region 5 with (fail)
        have hB : ExtB g w (wx.setCell ⟨g, 1, none⟩ (.int .i64 ((i : Int) + 1))) := (ExtB.of (hW.trans hx.drawn)).set _ _
        have hg2 : (wx.setCell ⟨g, 1, none⟩ (.int .i64 ((i : Int) + 1))).heap[g]? = some (.cells #[.slice (some a) n c, .int .i64 ((i : Int) + 1), .bool false, .int .i64 x0, .int .i64 x1, .int .u64 x2, .int .u64 x3, .slice x4 x5 x6, .slice x7 x8 x9] 142 (0, 0)) := by
          simp [World.setCell, Array.getElem?_modify, hg1]
        have hr2 : (wx.setCell ⟨g, 1, none⟩ (.int .i64 ((i : Int) + 1))).heap[w.heap.size + 1]? = _ := (Below.heap_setCell _ _ _ _ (by simp; omega)).trans hr1
        have p0 := hB.cell q0 (by rw [add_block]; exact hag)
        have p1 := hB.cell q1 (by rw [add_block, add_block]; exact hag)
        have p2 := hB.cell q2 (by rw [add_block, add_block]; exact hag)
        rw [show (a.add (i * 3)).add 1 = ⟨(a.add (i * 3)).block, (a.add (i * 3)).off + 1, none⟩ from rfl] at p1
        rw [show (a.add (i * 3)).add 2 = ⟨(a.add (i * 3)).block, (a.add (i * 3)).off + 2, none⟩ from rfl] at p2
        clear c0 c1 cf1 hg1 hr1 hy1 hX hx q0 q1 q2 hW
        generalize wx.setCell ⟨g, 1, none⟩ (.int .i64 ((i : Int) + 1)) = W2 at *
        have hw1 : IntKind.i64.wrap (i : Int) = (i : Int) := by rw [IntKind.wrap_i64]; omega
        have hX2 : ∀ wy, Ext W2.drew wy → wy.cell? ⟨g, 0, none⟩ = some (.slice (some a) n c) ∧ wy.cell? ⟨g, 1, none⟩ = some (.int .i64 ((i : Int) + 1)) ∧ wy.cell? (a.add (i * 3)) = some (.int .u64 rn) ∧ wy.cell? ⟨(a.add (i * 3)).block, (a.add (i * 3)).off + 1, none⟩ = some (.slice rA rk rc) ∧ wy.cell? ⟨(a.add (i * 3)).block, (a.add (i * 3)).off + 2, none⟩ = some (.bool rf) := fun wy hy =>
          ⟨hy.drawn.cell (by simp [World.cell?, hg2]), hy.drawn.cell (by simp [World.cell?, hg2]), hy.drawn.cell p0, hy.drawn.cell p1, hy.drawn.cell p2⟩
        refine' wp_region_sure ⟨((some 28, [], none) :: (some 29, [0], none) :: (some 30, [1], none) :: (some 31, [2], none) :: (some 32, [], none) :: (some 33, [4], none) :: (some 34, [5], none) :: (some 35, [6], none) :: (some 36, [7], none) :: (some 37, [3, 8], none) :: (some 38, [9], none) :: (none, [10, 0, 1, 2, 3, 4, 5, 6, 7, 8, 9, 10], none) :: []), (0 :: 1 :: 3 :: 7 :: 0 :: 16 :: 48 :: 112 :: 240 :: 511 :: 1023 :: 2047 :: []), (true :: true :: true :: true :: true :: true :: true :: true :: true :: true :: true :: []), [], 0⟩ 11 47 ((0, 28) :: (1, 29) :: (2, 30) :: (3, 31) :: (4, 32) :: (5, 33) :: (6, 34) :: (7, 35) :: (8, 36) :: (9, 37) :: (10, 38) :: []) ((0, 28) :: (1, 29) :: (2, 30) :: (3, 31) :: (4, 32) :: (5, 33) :: (6, 34) :: (7, 35) :: (8, 36) :: (9, 37) :: (10, 38) :: []) (.det _ :: .det _ :: .det _ :: .det _ :: .det _ :: .det _ :: .det _ :: .det _ :: .det _ :: .det _ :: .det _ :: []) (by kernel_rfl) (by kernel_rfl) (by kernel_rfl) rfl (by kernel_rfl) (by kernel_rfl) rfl ?hone ?hend
        case hone =>
          intro CS frS VS hCS ha hV
          have qs0 := slot_val (t := 0) ha rfl
          simp only [List.getElem_toArray, List.getElem_cons_succ, List.getElem_cons_zero] at qs0
          have HCS := Lib.hid hCS
          have HVS := Lib.hid hV
          clear ha hCS hV
          -- 0: slot 28 := Op.move t0
          refine sure_det (js := []) (ts := [0]) (gd := none) (place_at HVS.out (k := 0) rfl) (by rw [HCS.out]; kernel_rfl) ?_ ?_
          · intro wx hx ρ hρ hs hf
            have hρc := hρ.const
            have hρf := hρ.func
            obtain ⟨fx0, -⟩ := hf
            rw [qs0] at fx0
            clear hs
            clear HCS HVS qs0
            refine run_plain ?_
            refine op_move rfl fx0 ?_
            exact detK.mk
          -- 1: slot 29 := Op.nilCheck t28
          refine sure_det (js := [(0, 28)]) (ts := []) (gd := none) (place_at HVS.out (k := 1) rfl) (by rw [HCS.out]; kernel_rfl) ?_ ?_
          · intro wx hx ρ hρ hs hf
            have hρc := hρ.const
            have hρf := hρ.func
            obtain ⟨sn0, -⟩ := hs
            rw [place_at HVS.out (k := 0) rfl] at sn0
            replace sn0 : ρ (.tmp 28) = _ := sn0
            clear hf
            clear HCS HVS qs0
            refine run_plain ?_
            unfold runs
            go_simp
            exact detK.mk
          -- 2: slot 30 := Op.fieldAddr 142 t29 0
          refine sure_det (js := [(1, 29)]) (ts := []) (gd := none) (place_at HVS.out (k := 2) rfl) (by rw [HCS.out]; kernel_rfl) ?_ ?_
          · intro wx hx ρ hρ hs hf
            have hρc := hρ.const
            have hρf := hρ.func
            obtain ⟨sn1, -⟩ := hs
            rw [place_at HVS.out (k := 1) rfl] at sn1
            replace sn1 : ρ (.tmp 29) = _ := sn1
            clear hf
            clear HCS HVS qs0
            refine run_plain ?_
            unfold runs
            go_simp
            exact detK.mk
          -- 3: slot 31 := Op.load 25 t30
          refine sure_det (js := [(2, 30)]) (ts := []) (gd := none) (place_at HVS.out (k := 3) rfl) (by rw [HCS.out]; kernel_rfl) ?_ ?_
          · intro wx hx ρ hρ hs hf
            have hρc := hρ.const
            have hρf := hρ.func
            obtain ⟨sn2, -⟩ := hs
            rw [place_at HVS.out (k := 2) rfl] at sn2
            replace sn2 : ρ (.tmp 30) = _ := sn2
            clear hf
            clear HCS HVS qs0
            refine run_plain ?_
            obtain ⟨c0, c1, p0, p1, p2⟩ := hX2 wx hx
            unfold runs
            go_simp
            exact detK.mk
          -- 4: slot 32 := Op.move t0
          refine sure_det (js := []) (ts := [0]) (gd := none) (place_at HVS.out (k := 4) rfl) (by rw [HCS.out]; kernel_rfl) ?_ ?_
          · intro wx hx ρ hρ hs hf
            have hρc := hρ.const
            have hρf := hρ.func
            obtain ⟨fx0, -⟩ := hf
            rw [qs0] at fx0
            clear hs
            clear HCS HVS qs0
            refine run_plain ?_
            refine op_move rfl fx0 ?_
            exact detK.mk
          -- 5: slot 33 := Op.nilCheck t32
          refine sure_det (js := [(4, 32)]) (ts := []) (gd := none) (place_at HVS.out (k := 5) rfl) (by rw [HCS.out]; kernel_rfl) ?_ ?_
          · intro wx hx ρ hρ hs hf
            have hρc := hρ.const
            have hρf := hρ.func
            obtain ⟨sn4, -⟩ := hs
            rw [place_at HVS.out (k := 4) rfl] at sn4
            replace sn4 : ρ (.tmp 32) = _ := sn4
            clear hf
            clear HCS HVS qs0
            refine run_plain ?_
            unfold runs
            go_simp
            exact detK.mk
          -- 6: slot 34 := Op.fieldAddr 142 t33 1
          refine sure_det (js := [(5, 33)]) (ts := []) (gd := none) (place_at HVS.out (k := 6) rfl) (by rw [HCS.out]; kernel_rfl) ?_ ?_
          · intro wx hx ρ hρ hs hf
            have hρc := hρ.const
            have hρf := hρ.func
            obtain ⟨sn5, -⟩ := hs
            rw [place_at HVS.out (k := 5) rfl] at sn5
            replace sn5 : ρ (.tmp 33) = _ := sn5
            clear hf
            clear HCS HVS qs0
            refine run_plain ?_
            unfold runs
            go_simp
            exact detK.mk
          -- 7: slot 35 := Op.load 3 t34
          refine sure_det (js := [(6, 34)]) (ts := []) (gd := none) (place_at HVS.out (k := 7) rfl) (by rw [HCS.out]; kernel_rfl) ?_ ?_
          · intro wx hx ρ hρ hs hf
            have hρc := hρ.const
            have hρf := hρ.func
            obtain ⟨sn6, -⟩ := hs
            rw [place_at HVS.out (k := 6) rfl] at sn6
            replace sn6 : ρ (.tmp 34) = _ := sn6
            clear hf
            clear HCS HVS qs0
            refine run_plain ?_
            obtain ⟨c0, c1, p0, p1, p2⟩ := hX2 wx hx
            unfold runs
            go_simp
            exact detK.mk
          -- 8: slot 36 := Op.binOp BinOp.sub 3 t35 ((i64 1)) 3
          refine sure_det (js := [(7, 35)]) (ts := []) (gd := none) (place_at HVS.out (k := 8) rfl) (by rw [HCS.out]; kernel_rfl) ?_ ?_
          · intro wx hx ρ hρ hs hf
            have hρc := hρ.const
            have hρf := hρ.func
            obtain ⟨sn7, -⟩ := hs
            rw [place_at HVS.out (k := 7) rfl] at sn7
            replace sn7 : ρ (.tmp 35) = _ := sn7
            clear hf
            clear HCS HVS qs0
            refine run_plain ?_
            unfold runs
            go_simp
            exact detK.mk
          -- 9: slot 37 := Op.indexAddr 25 t31 t36
          refine sure_det (js := [(3, 31), (8, 36)]) (ts := []) (gd := none) (place_at HVS.out (k := 9) rfl) (by rw [HCS.out]; kernel_rfl) ?_ ?_
          · intro wx hx ρ hρ hs hf
            have hρc := hρ.const
            have hρf := hρ.func
            obtain ⟨sn3, sn8, -⟩ := hs
            rw [place_at HVS.out (k := 3) rfl] at sn3
            replace sn3 : ρ (.tmp 31) = _ := sn3
            rw [place_at HVS.out (k := 8) rfl] at sn8
            replace sn8 : ρ (.tmp 36) = _ := sn8
            clear hf
            clear HCS HVS qs0
            refine run_plain ?_
            unfold runs
            go_simp
            exact detK.mk
          -- 10: slot 38 := Op.load 130 t37
          refine sure_det (js := [(9, 37)]) (ts := []) (gd := none) (place_at HVS.out (k := 10) rfl) (by rw [HCS.out]; kernel_rfl) ?_ ?_
          · intro wx hx ρ hρ hs hf
            have hρc := hρ.const
            have hρf := hρ.func
            obtain ⟨sn9, -⟩ := hs
            rw [place_at HVS.out (k := 9) rfl] at sn9
            replace sn9 : ρ (.tmp 37) = _ := sn9
            clear hf
            clear HCS HVS qs0
            refine run_plain ?_
            obtain ⟨c0, c1, p0, p1, p2⟩ := hX2 wx hx
            unfold runs
            go_simp
            exact detK.mk
          exact trivial
        case hend =>
          intro xs wx hx hg
          have gk0 : xs 0 = _ := goods_get hg (i := 0) (j := 0) (d := 28) rfl
          have gk1 : xs 1 = _ := goods_get hg (i := 1) (j := 1) (d := 29) rfl
          have gk2 : xs 2 = _ := goods_get hg (i := 2) (j := 2) (d := 30) rfl
          have gk3 : xs 3 = _ := goods_get hg (i := 3) (j := 3) (d := 31) rfl
          have gk4 : xs 4 = _ := goods_get hg (i := 4) (j := 4) (d := 32) rfl
          have gk5 : xs 5 = _ := goods_get hg (i := 5) (j := 5) (d := 33) rfl
          have gk6 : xs 6 = _ := goods_get hg (i := 6) (j := 6) (d := 34) rfl
          have gk7 : xs 7 = _ := goods_get hg (i := 7) (j := 7) (d := 35) rfl
          have gk8 : xs 8 = _ := goods_get hg (i := 8) (j := 8) (d := 36) rfl
          have gk9 : xs 9 = _ := goods_get hg (i := 9) (j := 9) (d := 37) rfl
          have gk10 : xs 10 = _ := goods_get hg (i := 10) (j := 10) (d := 38) rfl
          clear hg
          simp only [putAll, gk0, gk1, gk2, gk3, gk4, gk5, gk6, gk7, gk8, gk9, gk10]
          clear gk0 gk1 gk2 gk3 gk4 gk5 gk6 gk7 gk8 gk9 gk10
          clear xs
          simp only [Act.put, List.setIfInBounds_toArray, List.set_cons_zero, List.set_cons_succ, List.drop_succ_cons, List.drop_zero]
          have hr3 := heap_ext hr2 hx.drawn
          have r0 : wx.cell? ⟨w.heap.size + 1, 0, none⟩ = some (.int .u64 0) := by simp [World.cell?, hr3]
          have r1 : wx.cell? ⟨w.heap.size + 1, 1, none⟩ = some (.slice none 0 0) := by simp [World.cell?, hr3]
          have r2 : wx.cell? ⟨w.heap.size + 1, 2, none⟩ = some (.bool false) := by simp [World.cell?, hr3]
          have rf0 : wx.frozen? ⟨w.heap.size + 1, 0, none⟩ = false := by simp [World.frozen?, hr3]
          have rf1 : wx.frozen? ⟨w.heap.size + 1, 1, none⟩ = false := by simp [World.frozen?, hr3]
          have rf2 : wx.frozen? ⟨w.heap.size + 1, 2, none⟩ = false := by simp [World.frozen?, hr3]
          go_wp2
          have e1 : Cu.told rs ⟨i, false, ⟨x0, x1, x2, x3, x4, x5, x6, x7, x8, x9⟩⟩ = ⟨rn, rA, rk, rc, rf⟩ := by simp [Cu.told, hrs]
          have e2 : Cu.next rs ⟨y0, y1, y2, y3, y4, y5, y6, y7, y8, y9⟩ ⟨i, false, ⟨x0, x1, x2, x3, x4, x5, x6, x7, x8, x9⟩⟩ = ⟨i + 1, false, ⟨x0, x1, x2, x3, x4, x5, x6, x7, x8, x9⟩⟩ := by simp [Cu.next, hi]
          refine bodyPost_ret (v := .agg #[.int .u64 rn, .slice rA rk rc, .bool rf]) (by simp [results, Try.results117, go_sem, r0, r1, r2]) rfl ⟨by simp only [e1], ?_, ?_⟩
          · rw [e2]
            have h1 := (setAll_other (g := w.heap.size + 1) (k := g) (by omega) [.int .u64 rn, .slice rA rk rc, .bool rf] 0 wx).trans (heap_ext hg2 hx.drawn)
            exact h1
          · have h1 : ExtB g w wx := hB.trans (ExtB.of hx.drawn)
            exact ((h1.trans_set (by omega)).trans_set (by omega)).trans_set (by omega)
    · have hge : ¬ (i : Int) < (n : Int) := by omega
      go_upto_region 3 with (fail)
      clear c0 c1 c2 c3 c4 c5 c6 c7 c8 cf0 cf1 cf2 cf3 cf4 cf5 cf6 cf7 cf8 r0 r1 r2 rf0 rf1 rf2 z0 z1 z2 z3 z4 z5
      refine' wp_region_sure_all ⟨((some 10, [], none) :: (some 11, [0], none) :: (some 12, [1], none) :: (some 13, [2], none) :: (some 14, [], none) :: (some 15, [4], none) :: (some 16, [5], none) :: (some 17, [6], none) :: (some 18, [7], none) :: (some 19, [3, 8], none) :: []), (0 :: 1 :: 3 :: 7 :: 0 :: 16 :: 48 :: 112 :: 240 :: 511 :: []), (true :: true :: true :: true :: true :: true :: true :: true :: true :: true :: []), [], 0⟩ 10 47 ((0, 10) :: (1, 11) :: (2, 12) :: (3, 13) :: (4, 14) :: (5, 15) :: (6, 16) :: (7, 17) :: (8, 18) :: (9, 19) :: []) ((0, 10) :: (1, 11) :: (2, 12) :: (3, 13) :: (4, 14) :: (5, 15) :: (6, 16) :: (7, 17) :: (8, 18) :: (9, 19) :: []) (.det _ :: .det _ :: .det _ :: .det _ :: .det _ :: .det _ :: .det _ :: .det _ :: .det _ :: .det _ :: []) (by kernel_rfl) (by kernel_rfl) (by kernel_rfl) rfl (by kernel_rfl) (by kernel_rfl) rfl (by kernel_rfl) ?hone ?hend
      case hone =>
        intro CS frS VS hCS ha hV
        have qs0 := slot_val (t := 0) ha rfl
        simp only [List.getElem_toArray, List.getElem_cons_succ, List.getElem_cons_zero] at qs0
        have HCS := Lib.hid hCS
        have HVS := Lib.hid hV
        clear ha hCS hV
        -- 0: slot 10 := Op.move t0
        refine sure_det (js := []) (ts := [0]) (gd := none) (place_at HVS.out (k := 0) rfl) (by rw [HCS.out]; kernel_rfl) ?_ ?_
        · intro wx hx ρ hρ hs hf
          have hρc := hρ.const
          have hρf := hρ.func
          obtain ⟨fx0, -⟩ := hf
          rw [qs0] at fx0
          clear hs
          clear HCS HVS qs0
          refine run_plain ?_
          refine op_move rfl fx0 ?_
          exact detK.mk
        -- 1: slot 11 := Op.nilCheck t10
        refine sure_det (js := [(0, 10)]) (ts := []) (gd := none) (place_at HVS.out (k := 1) rfl) (by rw [HCS.out]; kernel_rfl) ?_ ?_
        · intro wx hx ρ hρ hs hf
          have hρc := hρ.const
          have hρf := hρ.func
          obtain ⟨sn0, -⟩ := hs
          rw [place_at HVS.out (k := 0) rfl] at sn0
          replace sn0 : ρ (.tmp 10) = _ := sn0
          clear hf
          clear HCS HVS qs0
          refine run_plain ?_
          unfold runs
          go_simp
          exact detK.mk
        -- 2: slot 12 := Op.fieldAddr 142 t11 1
        refine sure_det (js := [(1, 11)]) (ts := []) (gd := none) (place_at HVS.out (k := 2) rfl) (by rw [HCS.out]; kernel_rfl) ?_ ?_
        · intro wx hx ρ hρ hs hf
          have hρc := hρ.const
          have hρf := hρ.func
          obtain ⟨sn1, -⟩ := hs
          rw [place_at HVS.out (k := 1) rfl] at sn1
          replace sn1 : ρ (.tmp 11) = _ := sn1
          clear hf
          clear HCS HVS qs0
          refine run_plain ?_
          unfold runs
          go_simp
          exact detK.mk
        -- 3: slot 13 := Op.load 3 t12
        refine sure_det (js := [(2, 12)]) (ts := []) (gd := none) (place_at HVS.out (k := 3) rfl) (by rw [HCS.out]; kernel_rfl) ?_ ?_
        · intro wx hx ρ hρ hs hf
          have hρc := hρ.const
          have hρf := hρ.func
          obtain ⟨sn2, -⟩ := hs
          rw [place_at HVS.out (k := 2) rfl] at sn2
          replace sn2 : ρ (.tmp 12) = _ := sn2
          clear hf
          clear HCS HVS qs0
          refine run_plain ?_
          obtain ⟨c0, c1, -⟩ := hX wx hx.drawn
          unfold runs
          go_simp
          exact detK.mk
        -- 4: slot 14 := Op.move t0
        refine sure_det (js := []) (ts := [0]) (gd := none) (place_at HVS.out (k := 4) rfl) (by rw [HCS.out]; kernel_rfl) ?_ ?_
        · intro wx hx ρ hρ hs hf
          have hρc := hρ.const
          have hρf := hρ.func
          obtain ⟨fx0, -⟩ := hf
          rw [qs0] at fx0
          clear hs
          clear HCS HVS qs0
          refine run_plain ?_
          refine op_move rfl fx0 ?_
          exact detK.mk
        -- 5: slot 15 := Op.nilCheck t14
        refine sure_det (js := [(4, 14)]) (ts := []) (gd := none) (place_at HVS.out (k := 5) rfl) (by rw [HCS.out]; kernel_rfl) ?_ ?_
        · intro wx hx ρ hρ hs hf
          have hρc := hρ.const
          have hρf := hρ.func
          obtain ⟨sn4, -⟩ := hs
          rw [place_at HVS.out (k := 4) rfl] at sn4
          replace sn4 : ρ (.tmp 14) = _ := sn4
          clear hf
          clear HCS HVS qs0
          refine run_plain ?_
          unfold runs
          go_simp
          exact detK.mk
        -- 6: slot 16 := Op.fieldAddr 142 t15 0
        refine sure_det (js := [(5, 15)]) (ts := []) (gd := none) (place_at HVS.out (k := 6) rfl) (by rw [HCS.out]; kernel_rfl) ?_ ?_
        · intro wx hx ρ hρ hs hf
          have hρc := hρ.const
          have hρf := hρ.func
          obtain ⟨sn5, -⟩ := hs
          rw [place_at HVS.out (k := 5) rfl] at sn5
          replace sn5 : ρ (.tmp 15) = _ := sn5
          clear hf
          clear HCS HVS qs0
          refine run_plain ?_
          unfold runs
          go_simp
          exact detK.mk
        -- 7: slot 17 := Op.load 25 t16
        refine sure_det (js := [(6, 16)]) (ts := []) (gd := none) (place_at HVS.out (k := 7) rfl) (by rw [HCS.out]; kernel_rfl) ?_ ?_
        · intro wx hx ρ hρ hs hf
          have hρc := hρ.const
          have hρf := hρ.func
          obtain ⟨sn6, -⟩ := hs
          rw [place_at HVS.out (k := 6) rfl] at sn6
          replace sn6 : ρ (.tmp 16) = _ := sn6
          clear hf
          clear HCS HVS qs0
          refine run_plain ?_
          obtain ⟨c0, c1, -⟩ := hX wx hx.drawn
          unfold runs
          go_simp
          exact detK.mk
        -- 8: slot 18 := Op.call { len, args := #[t17], argTypes := #[25] }
        refine sure_det (js := [(7, 17)]) (ts := []) (gd := none) (place_at HVS.out (k := 8) rfl) (by rw [HCS.out]; kernel_rfl) ?_ ?_
        · intro wx hx ρ hρ hs hf
          have hρc := hρ.const
          have hρf := hρ.func
          obtain ⟨sn7, -⟩ := hs
          rw [place_at HVS.out (k := 7) rfl] at sn7
          replace sn7 : ρ (.tmp 17) = _ := sn7
          clear hf
          clear HCS HVS qs0
          refine run_plain ?_
          unfold runs
          go_simp
          exact detK.mk
        -- 9: slot 19 := Op.binOp BinOp.lss 3 t13 t18 3
        refine sure_det (js := [(3, 13), (8, 18)]) (ts := []) (gd := none) (place_at HVS.out (k := 9) rfl) (by rw [HCS.out]; kernel_rfl) ?_ ?_
        · intro wx hx ρ hρ hs hf
          have hρc := hρ.const
          have hρf := hρ.func
          obtain ⟨sn3, sn8, -⟩ := hs
          rw [place_at HVS.out (k := 3) rfl] at sn3
          replace sn3 : ρ (.tmp 13) = _ := sn3
          rw [place_at HVS.out (k := 8) rfl] at sn8
          replace sn8 : ρ (.tmp 18) = _ := sn8
          clear hf
          clear HCS HVS qs0
          refine run_plain ?_
          unfold runs
          go_simp
          exact detK.mk
        exact trivial
      case hend =>
        intro xs wx hx hg
        have gk0 : xs 0 = _ := goods_get hg (i := 0) (j := 0) (d := 10) rfl
        have gk1 : xs 1 = _ := goods_get hg (i := 1) (j := 1) (d := 11) rfl
        have gk2 : xs 2 = _ := goods_get hg (i := 2) (j := 2) (d := 12) rfl
        have gk3 : xs 3 = _ := goods_get hg (i := 3) (j := 3) (d := 13) rfl
        have gk4 : xs 4 = _ := goods_get hg (i := 4) (j := 4) (d := 14) rfl
        have gk5 : xs 5 = _ := goods_get hg (i := 5) (j := 5) (d := 15) rfl
        have gk6 : xs 6 = _ := goods_get hg (i := 6) (j := 6) (d := 16) rfl
        have gk7 : xs 7 = _ := goods_get hg (i := 7) (j := 7) (d := 17) rfl
        have gk8 : xs 8 = _ := goods_get hg (i := 8) (j := 8) (d := 18) rfl
        have gk9 : xs 9 = _ := goods_get hg (i := 9) (j := 9) (d := 19) rfl
        clear hg
        simp only [putAll, gk0, gk1, gk2, gk3, gk4, gk5, gk6, gk7, gk8, gk9]
        clear gk0 gk1 gk2 gk3 gk4 gk5 gk6 gk7 gk8 gk9
        clear xs
        simp only [Act.put, List.setIfInBounds_toArray, List.set_cons_zero, List.set_cons_succ]
        obtain ⟨-, -, -, hg1, hr1, hy1⟩ := hX wx hx.drawn
        have hE1 := hW.trans hx.drawn
        have HC1 := Lib.hid hg1
        have HR1 := Lib.hid hr1
        have c0 : wx.cell? ⟨g, 0, none⟩ = some (.slice A n c) := by simp [World.cell?, hg1]
        have cf0 : wx.frozen? ⟨g, 0, none⟩ = false := by simp [World.frozen?, hg1]
        have c1 : wx.cell? ⟨g, 1, none⟩ = some (.int .i64 i) := by simp [World.cell?, hg1]
        have cf1 : wx.frozen? ⟨g, 1, none⟩ = false := by simp [World.frozen?, hg1]
        have c2 : wx.cell? ⟨g, 2, none⟩ = some (.bool false) := by simp [World.cell?, hg1]
        have cf2 : wx.frozen? ⟨g, 2, none⟩ = false := by simp [World.frozen?, hg1]
        have c3 : wx.cell? ⟨g, 3, none⟩ = some (.int .i64 x0) := by simp [World.cell?, hg1]
        have cf3 : wx.frozen? ⟨g, 3, none⟩ = false := by simp [World.frozen?, hg1]
        have c4 : wx.cell? ⟨g, 4, none⟩ = some (.int .i64 x1) := by simp [World.cell?, hg1]
        have cf4 : wx.frozen? ⟨g, 4, none⟩ = false := by simp [World.frozen?, hg1]
        have c5 : wx.cell? ⟨g, 5, none⟩ = some (.int .u64 x2) := by simp [World.cell?, hg1]
        have cf5 : wx.frozen? ⟨g, 5, none⟩ = false := by simp [World.frozen?, hg1]
        have c6 : wx.cell? ⟨g, 6, none⟩ = some (.int .u64 x3) := by simp [World.cell?, hg1]
        have cf6 : wx.frozen? ⟨g, 6, none⟩ = false := by simp [World.frozen?, hg1]
        have c7 : wx.cell? ⟨g, 7, none⟩ = some (.slice x4 x5 x6) := by simp [World.cell?, hg1]
        have cf7 : wx.frozen? ⟨g, 7, none⟩ = false := by simp [World.frozen?, hg1]
        have c8 : wx.cell? ⟨g, 8, none⟩ = some (.slice x7 x8 x9) := by simp [World.cell?, hg1]
        have cf8 : wx.frozen? ⟨g, 8, none⟩ = false := by simp [World.frozen?, hg1]
        have r0 : wx.cell? ⟨w.heap.size + 1, 0, none⟩ = some (.int .u64 0) := by simp [World.cell?, hr1]
        have rf0 : wx.frozen? ⟨w.heap.size + 1, 0, none⟩ = false := by simp [World.frozen?, hr1]
        have r1 : wx.cell? ⟨w.heap.size + 1, 1, none⟩ = some (.slice none 0 0) := by simp [World.cell?, hr1]
        have rf1 : wx.frozen? ⟨w.heap.size + 1, 1, none⟩ = false := by simp [World.frozen?, hr1]
        have r2 : wx.cell? ⟨w.heap.size + 1, 2, none⟩ = some (.bool false) := by simp [World.cell?, hr1]
        have rf2 : wx.frozen? ⟨w.heap.size + 1, 2, none⟩ = false := by simp [World.frozen?, hr1]
        have z0 : wx.cell? ⟨w.heap.size, 0, none⟩ = some (.int .i64 y0) := by simp [World.cell?, hy1]
        have z1 : wx.cell? ⟨w.heap.size, 1, none⟩ = some (.int .i64 y1) := by simp [World.cell?, hy1]
        have z2 : wx.cell? ⟨w.heap.size, 2, none⟩ = some (.int .u64 y2) := by simp [World.cell?, hy1]
        have z3 : wx.cell? ⟨w.heap.size, 3, none⟩ = some (.int .u64 y3) := by simp [World.cell?, hy1]
        have z4 : wx.cell? ⟨w.heap.size, 4, none⟩ = some (.slice y4 y5 y6) := by simp [World.cell?, hy1]
        have z5 : wx.cell? ⟨w.heap.size, 5, none⟩ = some (.slice y7 y8 y9) := by simp [World.cell?, hy1]
        clear hg1 hr1 hy1 hX
        go_wp2
        have e1 : Cu.told rs ⟨i, false, ⟨x0, x1, x2, x3, x4, x5, x6, x7, x8, x9⟩⟩ = Res.zero := by simp [Cu.told, hi]
        have e2 : Cu.next rs ⟨y0, y1, y2, y3, y4, y5, y6, y7, y8, y9⟩ ⟨i, false, ⟨x0, x1, x2, x3, x4, x5, x6, x7, x8, x9⟩⟩ = ⟨i, true, ⟨y0, y1, y2, y3, y4, y5, y6, y7, y8, y9⟩⟩ := by simp [Cu.next, Nat.not_lt.2 hi]
        refine bodyPost_ret (v := .agg #[.int .u64 0, .slice none 0 0, .bool false]) (by simp [results, Try.results117, go_sem, r0, r1, r2]) rfl ⟨by simp only [e1, Res.zero], ?_, ?_⟩
        · rw [e2]
          have h1 : (setAll g 2 [.bool true, .int .i64 y0, .int .i64 y1, .int .u64 y2, .int .u64 y3, .slice y4 y5 y6, .slice y7 y8 y9] wx).heap[g]? = some (.cells (([.slice A n c, .int .i64 i] ++ [.bool true, .int .i64 y0, .int .i64 y1, .int .u64 y2, .int .u64 y3, .slice y4 y5 y6, .slice y7 y8 y9] : List Value)).toArray 142 (0, 0)) :=
            setAll_same _ [.slice A n c, .int .i64 i] [.bool false, .int .i64 x0, .int .i64 x1, .int .u64 x2, .int .u64 x3, .slice x4 x5 x6, .slice x7 x8 x9] wx HC1.out rfl
          have h2 := (setAll_other (g := w.heap.size + 1) (k := g) (by omega) [.int .u64 0, .slice none 0 0, .bool false] 0 _).trans h1
          exact h2
        · have h1 : ExtB g w wx := ExtB.of hE1
          have h2 : ExtB g w (((((((wx.setCell ⟨g, 2, none⟩ (.bool true)).setCell ⟨g, 3, none⟩ (.int .i64 y0)).setCell ⟨g, 4, none⟩ (.int .i64 y1)).setCell ⟨g, 5, none⟩ (.int .u64 y2)).setCell ⟨g, 6, none⟩ (.int .u64 y3)).setCell ⟨g, 7, none⟩ (.slice y4 y5 y6)).setCell ⟨g, 8, none⟩ (.slice y7 y8 y9)) :=
            ((((((h1.set _ _).set _ _).set _ _).set _ _).set _ _).set _ _).set _ _
          exact ((h2.trans_set (by omega)).trans_set (by omega)).trans_set (by omega)
end Go.Proofs.Ytkdjmfaodojmfaa
