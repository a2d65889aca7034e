import Derived.Test.YtennnhfaghdeoaaStream
namespace Go.Proofs.Ytennnhfaghdeoaa
open Go.RowKit

/-! wealdref06.Append, wealdref06.Cut. -/
set_option maxRecDepth 100000 in
set_option maxHeartbeats 1000000 in
theorem rappend_any (A B : Option Addr) (n c m c2 : Nat) (k : Int) (d b : List UInt8) (w : World) (hA : BytesV w A n c d) (hB : BytesV w B m c2 b) (hs : n + m ≤ 65536) :
  Calls Try.prog 45 #[.agg #[.slice A n c, .int .i64 k], .slice B m c2] w fun e w' =>
   ∃ A' c', e = .returned (.agg #[.slice A' (n + m) c', .int .i64 k]) ∧ BytesV w' A' (n + m) c' (d ++ b) ∧ Ext w w' := by
 obtain ⟨i0, hi0, hz0, hz1, hz2⟩ := info_parts info_u8
 have hE : Ext w ((w.alloc (.cells #[.slice A n c, .int .i64 k] 90)).alloc (.cells #[.slice none 0 0, .int .i64 0] 90)) := ((Below.refl _ w).alloc (Nat.le_refl _) _).alloc (by simp) _
 generalize hW : ((w.alloc (.cells #[.slice A n c, .int .i64 k] 90)).alloc (.cells #[.slice none 0 0, .int .i64 0] 90)) = W at hE
 have HW := Lib.hid hW
 clear hW
 have hbox : ∀ wx, Ext W.drew wx → wx.cell? ⟨w.heap.size, 0, none⟩ = some (.slice A n c) ∧ wx.cell? ⟨w.heap.size, 1, none⟩ = some (.int .i64 k) ∧ wx.cell? ⟨w.heap.size + 1, 0, none⟩ = some (.slice none 0 0) ∧ wx.cell? ⟨w.heap.size + 1, 1, none⟩ = some (.int .i64 0) ∧ wx.frozen? ⟨w.heap.size + 1, 0, none⟩ = false ∧ wx.frozen? ⟨w.heap.size + 1, 1, none⟩ = false := fun wx hx =>
  ⟨hx.cell (by rw [← HW.out]; simp [go_sem]), hx.cell (by rw [← HW.out]; simp [go_sem]), hx.cell (by rw [← HW.out]; simp [go_sem]), hx.cell (by rw [← HW.out]; simp [go_sem]),
   by rw [hx.frozen (by rw [← HW.out]; simp)]; rw [← HW.out]; simp [go_sem], by rw [hx.frozen (by rw [← HW.out]; simp)]; rw [← HW.out]; simp [go_sem]⟩
 have hAx : ∀ wx, Ext W.drew wx → BytesV wx A n c d := fun wx hx => hA.ext (hE.trans hx.drawn)
 have hBx : ∀ wx, Ext W.drew wx → BytesV wx B m c2 b := fun wx hx => hB.ext (hE.trans hx.drawn)
 have hmax : n + m ≤ maxLen := by simp only [maxLen]; omega
 have hbs : ∀ W : World, (Instr.buildSlice 40 0 #[]).run Try.prog W = .ok (.slice (some ⟨W.heap.size, 0, none⟩) 0 0) (W.alloc (.cells #[] 5)) := fun _ => by kernel_rfl
 go_enter Try.func45, Try.ntmps45
 go_wp2
 rw [HW.out]
 refine' wp_region_sure ⟨((some 5, [], none) :: (some 6, [], none) :: (some 7, [1], none) :: (some 8, [0, 2], none) :: (some 9, [], none) :: (some 10, [3, 4, 3], none) :: (some 11, [], none) :: (some 12, [6], none) :: (some 13, [5, 7], none) :: (none, [8, 5, 0, 1, 2, 3, 4, 5, 6, 7, 8], none) :: []), (0 :: 0 :: 2 :: 7 :: 0 :: 31 :: 0 :: 64 :: 255 :: 511 :: []), (false :: true :: true :: false :: true :: false :: true :: true :: false :: []), [3, 5], 5⟩ 9 14 ((0, 5) :: (1, 6) :: (2, 7) :: (3, 8) :: (4, 9) :: (5, 10) :: (6, 11) :: (7, 12) :: (8, 13) :: []) ((1, 6) :: (2, 7) :: (4, 9) :: (5, 10) :: (6, 11) :: (7, 12) :: (8, 13) :: []) (Good.of (fun v w => w.ownsRow W.heap.size 5 1 v 0 []) (fun v w w' h hx => ownsRow_ext h hx) :: .det _ :: .det _ :: Good.of (fun v w => w.ownsRow W.heap.size 5 1 v n (bytesOf d)) (fun v w w' h hx => ownsRow_ext h hx) :: .det _ :: Good.of (fun v w => w.ownsRow W.heap.size 5 1 v (n + m) (bytesOf d ++ bytesOf b)) (fun v w w' h hx => ownsRow_ext h hx) :: .det _ :: .det _ :: Good.of (fun v w => ∃ u, v = .agg #[u, .int .i64 k] ∧ w.ownsRow W.heap.size 5 1 u (n + m) (bytesOf d ++ bytesOf b)) (fun v w w' h hx => let ⟨u, e, ho⟩ := h; ⟨u, e, ownsRow_ext ho hx⟩) :: []) (by kernel_rfl) (by kernel_rfl) (by kernel_rfl) rfl (by kernel_rfl) (by kernel_rfl) rfl ?hone ?hend
 case hone =>
  intro CS frS VS hCS ha hV
  have qs1 := slot_val (t := 1) ha rfl
  simp only [List.getElem_toArray, List.getElem_cons_succ, List.getElem_cons_zero] at qs1
  have qs2 := slot_val (t := 2) ha rfl
  simp only [List.getElem_toArray, List.getElem_cons_succ, List.getElem_cons_zero] at qs2
  have HCS := Lib.hid hCS
  have HVS := Lib.hid hV
  clear ha hCS hV
  refine sure_op (js := []) (ts := []) (gd := none) (place_at HVS.out (k := 0) rfl) (by rw [HCS.out]; kernel_rfl) ?_ ?_
  ·intro wx hx ρ hρ hs hf; have hρc := hρ.const; have hρf := hρ.func
   clear hs
   clear hf
   clear HCS HVS qs1 qs2
   refine run_plain ?_
   refine op_buildSlice rfl (by simpa using hbs wx) ?_
   exact ⟨Ext.refl _ |>.alloc (Nat.le_refl _) _, by simp, .inr ⟨wx.heap.size, 0, #[], rfl, hx.size, heap_alloc_new wx _, Nat.le_refl _, Nat.zero_le _, by simp, by simp⟩⟩
  refine sure_det (js := []) (ts := [2]) (gd := none) (place_at HVS.out (k := 1) rfl) (by rw [HCS.out]; kernel_rfl) ?_ ?_
  ·intro wx hx ρ hρ hs hf; have hρc := hρ.const; have hρf := hρ.func
   obtain ⟨fx2, -⟩ := hf; rw [qs2] at fx2
   clear hs
   clear HCS HVS qs1 qs2
   refine run_plain ?_
   unfold runs
   go_simp
   exact detK.mk
  refine sure_det (js := [(1, 6)]) (ts := []) (gd := none) (place_at HVS.out (k := 2) rfl) (by rw [HCS.out]; kernel_rfl) ?_ ?_
  ·intro wx hx ρ hρ hs hf; have hρc := hρ.const; have hρf := hρ.func; obtain ⟨sn1, -⟩ := hs; rw [place_at HVS.out (k := 1) rfl] at sn1; replace sn1 : ρ (.tmp 6) = _ := sn1
   clear hf
   clear HCS HVS qs1 qs2
   refine run_plain ?_
   obtain ⟨c0, c1, -⟩ := hbox wx hx
   unfold runs
   go_simp
   exact detK.mk
  refine sure_wild (js := [(0, 5), (2, 7)]) (ts := []) (gd := none) (place_at HVS.out (k := 3) rfl) (by rw [HCS.out]) (by rw [HCS.out]; kernel_rfl) ?_ ?_
  ·intro wx hx ρ hρ hs hf; have hρc := hρ.const; have hρf := hρ.func; obtain ⟨sn0, sn2, -⟩ := hs; rw [place_at HVS.out (k := 0) rfl] at sn0; replace sn0 : wx.ownsRow W.heap.size 5 1 (ρ (.tmp 5)) 0 [] := sn0; rw [place_at HVS.out (k := 2) rfl] at sn2; replace sn2 : ρ (.tmp 7) = _ := sn2
   clear hf
   clear HCS HVS qs1 qs2
   refine run_plain ?_
   obtain ⟨v', w', hr, ho, hb, hwr⟩ := run_append_own_any (P := Try.prog) (w := wx) W.heap.size 40 40 5 i0 _ 1 1 Try.underlying40 hi0 hz0 hz1 hz2 rfl (by decide) _ 0 [] sn0 A n c (bytesOf d) (by rw [bytesOf_length, hA.len]; omega) (hAx wx hx).cells hA.none0 (bytesOf_one d) (by omega) (by omega) hx.size
   refine op_append rfl rfl sn2 hr ?_
   simp only [Nat.zero_add, List.nil_append] at ho
   exact ⟨⟨hb, hwr⟩, ho⟩
  refine sure_det (js := []) (ts := [1]) (gd := none) (place_at HVS.out (k := 4) rfl) (by rw [HCS.out]; kernel_rfl) ?_ ?_
  ·intro wx hx ρ hρ hs hf; have hρc := hρ.const; have hρf := hρ.func
   obtain ⟨fx1, -⟩ := hf; rw [qs1] at fx1
   clear hs
   clear HCS HVS qs1 qs2
   refine run_plain ?_
   refine op_move rfl fx1 ?_
   exact detK.mk
  refine sure_wild (js := [(3, 8), (4, 9)]) (ts := []) (gd := none) (place_at HVS.out (k := 5) rfl) (by rw [HCS.out]) (by rw [HCS.out]; kernel_rfl) ?_ ?_
  ·intro wx hx ρ hρ hs hf; have hρc := hρ.const; have hρf := hρ.func; obtain ⟨sn3, sn4, -⟩ := hs; rw [place_at HVS.out (k := 3) rfl] at sn3; replace sn3 : wx.ownsRow W.heap.size 5 1 (ρ (.tmp 8)) n (bytesOf d) := sn3; rw [place_at HVS.out (k := 4) rfl] at sn4; replace sn4 : ρ (.tmp 9) = _ := sn4
   clear hf
   clear HCS HVS qs1 qs2
   refine run_plain ?_
   obtain ⟨v', w', hr, ho, hb, hwr⟩ := run_append_own_any (P := Try.prog) (w := wx) W.heap.size 40 40 5 i0 _ 1 1 Try.underlying40 hi0 hz0 hz1 hz2 rfl (by decide) _ n (bytesOf d) sn3 B m c2 (bytesOf b) (by rw [bytesOf_length, hB.len]; omega) (hBx wx hx).cells hB.none0 (bytesOf_one b) hmax (by omega) hx.size
   refine op_append rfl rfl sn4 hr ?_
   exact ⟨⟨hb, hwr⟩, ho⟩
  refine sure_det (js := []) (ts := [2]) (gd := none) (place_at HVS.out (k := 6) rfl) (by rw [HCS.out]; kernel_rfl) ?_ ?_
  ·intro wx hx ρ hρ hs hf; have hρc := hρ.const; have hρf := hρ.func
   obtain ⟨fx2, -⟩ := hf; rw [qs2] at fx2
   clear hs
   clear HCS HVS qs1 qs2
   refine run_plain ?_
   unfold runs
   go_simp
   exact detK.mk
  refine sure_det (js := [(6, 11)]) (ts := []) (gd := none) (place_at HVS.out (k := 7) rfl) (by rw [HCS.out]; kernel_rfl) ?_ ?_
  ·intro wx hx ρ hρ hs hf; have hρc := hρ.const; have hρf := hρ.func; obtain ⟨sn6, -⟩ := hs; rw [place_at HVS.out (k := 6) rfl] at sn6; replace sn6 : ρ (.tmp 11) = _ := sn6
   clear hf
   clear HCS HVS qs1 qs2
   refine run_plain ?_
   obtain ⟨c0, c1, -⟩ := hbox wx hx
   unfold runs
   go_simp
   exact detK.mk
  refine sure_op (js := [(5, 10), (7, 12)]) (ts := []) (gd := none) (place_at HVS.out (k := 8) rfl) (by rw [HCS.out]; kernel_rfl) ?_ ?_
  ·intro wx hx ρ hρ hs hf; have hρc := hρ.const; have hρf := hρ.func; obtain ⟨sn5, sn7, -⟩ := hs; rw [place_at HVS.out (k := 5) rfl] at sn5; replace sn5 : wx.ownsRow W.heap.size 5 1 (ρ (.tmp 10)) (n + m) (bytesOf d ++ bytesOf b) := sn5; rw [place_at HVS.out (k := 7) rfl] at sn7; replace sn7 : ρ (.tmp 12) = _ := sn7
   clear hf
   clear HCS HVS qs1 qs2
   refine run_plain ?_
   have hu : ∃ A c, ρ (.tmp 10) = .slice A (n + m) c := (let ⟨A, c, e, _⟩ := own_form sn5; ⟨A, c, e⟩)
   obtain ⟨A5, c5, e5⟩ := hu
   unfold runs
   go_simp
   exact ⟨Ext.refl _, _, rfl, by rw [← e5]; exact sn5⟩
  exact trivial
 case hend =>
  intro xs wx hx hg
  have gk1 : xs 1 = _ := goods_get hg (i := 0) (j := 1) (d := 6) rfl
  have gk2 : xs 2 = _ := goods_get hg (i := 1) (j := 2) (d := 7) rfl
  have gk4 : xs 4 = _ := goods_get hg (i := 2) (j := 4) (d := 9) rfl
  have gk5 : wx.ownsRow W.heap.size 5 1 (xs 5) (n + m) (bytesOf d ++ bytesOf b) := goods_get hg (i := 3) (j := 5) (d := 10) rfl
  have gk6 : xs 6 = _ := goods_get hg (i := 4) (j := 6) (d := 11) rfl
  have gk7 : xs 7 = _ := goods_get hg (i := 5) (j := 7) (d := 12) rfl
  have gk8 : ∃ u, (xs 8) = .agg #[u, .int .i64 k] ∧ wx.ownsRow W.heap.size 5 1 u (n + m) (bytesOf d ++ bytesOf b) := goods_get hg (i := 6) (j := 8) (d := 13) rfl
  clear hg
  simp only [putAll, gk1, gk2, gk4, gk6, gk7]
  clear gk1 gk2 gk4 gk6 gk7
  generalize xs 0 = vx0
  generalize xs 3 = vx3
  generalize xs 5 = vx5 at gk5 ⊢
  generalize xs 8 = vx8 at gk8 ⊢
  clear xs
  simp only [Act.put, List.setIfInBounds_toArray, List.set_cons_zero, List.set_cons_succ, List.drop_succ_cons, List.drop_zero]
  obtain ⟨u, eu, hu⟩ := gk8
  subst eu
  obtain ⟨-, -, c2, c3, f2, f3⟩ := hbox wx hx
  obtain ⟨A5, c5, rfl, h1, h2, h3, h4, h5⟩ := own_form hu
  go_wp2
  have hlt : w.heap.size + 1 < W.heap.size := by rw [← HW.out]; simp
  refine bodyPost_ret (v := .agg #[.slice A5 (n + m) c5, .int .i64 k]) (by simp [results, Try.results45, go_sem, c2, c3]) rfl ⟨A5, c5, rfl, ⟨by rw [List.length_append, hA.len, hB.len], h1, h2, h3, ?_⟩, ?_⟩
  ·rw [bytesOf_append]
   exact (h4.set (fun _ a ha => by have := h5 a ha; simp; omega) _).set (fun _ a ha => by have := h5 a ha; simp; omega) _
  ·exact ((hE.trans hx.drawn).setCell (by simp) _).setCell (by simp) _
theorem cutN_test {n j : Nat} {k more : Int} (h0 : 0 ≤ k) (h1 : k ≤ n) (hj : j < n) : j < cutN n k more ↔ ((j : Int) < k ∨ (j : Int) - k < more) := by unfold cutN; omega
theorem cells_one {w : World} {a : Addr} {v : Value} (h : w.cell? a = some v) : Cells w (some a) [v] := fun _ => ⟨a, rfl, fun j u hu => by
 match j, hu with
 | 0, hu => simp at hu; subst hu; simpa [Addr.add] using h⟩
theorem bytesOf_take_succ {d : List UInt8} {j : Nat} (hj : j < d.length) : bytesOf (d.take (j + 1)) = bytesOf (d.take j) ++ [.int .u8 ((d[j]'hj).toNat : Int)] := by
 rw [List.take_succ_eq_append_getElem hj, bytesOf_append]; rfl
theorem bytesOf_at {d : List UInt8} {j : Nat} (hj : j < d.length) : (bytesOf d)[j]? = some (.int .u8 ((d[j]'hj).toNat : Int)) := by
 simp [bytesOf, hj]
/-- bytes of the call's own lie in a block of bytes -/
theorem own_tag {w : World} {base : Nat} {e : TypeId} {A : Option Addr} {n c n' : Nat} {xs : List Value} (h : w.ownsRow base e 1 (.slice A n c) n' xs) (hx : xs ≠ []) : ∃ a cur, A = some a ∧ base ≤ a.block ∧ w.heap[a.block]? = some (.cells cur e (0, 0)) := by
 rcases h.2 with ⟨_, rfl⟩ | ⟨g, cap, cur, h3, h4, h5, _⟩
 ·exact absurd (List.eq_nil_of_length_eq_zero (by simpa using h.1)) hx
 ·exact ⟨⟨g, 0, none⟩, cur, (Value.slice.inj h3).1, h4, h5⟩
set_option maxRecDepth 100000 in
set_option maxHeartbeats 1000000 in
theorem rcut_new (A : Option Addr) (n c : Nat) (k more : Int) (d : List UInt8) (w : World) (hA : BytesV w A n c d) (hn : n ≤ 65536) (h0 : 0 ≤ k) (h1 : k ≤ n) :
  Calls Try.prog 49 #[.agg #[.slice A n c, .int .i64 k], .int .i64 more] w fun e w' =>
   ∃ A' c', e = .returned (.agg #[.slice A' (cutN n k more) c', .int .i64 (cutN n k more)]) ∧ BytesV w' A' (cutN n k more) c' (d.take (cutN n k more)) ∧ (d.take (cutN n k more) ≠ [] → ∃ a cur, A' = some a ∧ w'.heap[a.block]? = some (.cells cur 5 (0, 0))) ∧ Ext w w' := by
 obtain ⟨i0, hi0, hz0, hz1, hz2⟩ := info_parts info_u8
 have hN := cutN_le (more := more) h0 h1
 have htest := fun j hj => @cutN_test n j k more h0 h1 hj
 generalize hNN : cutN n k more = N at *
 have HNN := Lib.hid hNN
 clear hNN
 have hE : Ext w ((w.alloc (.cells #[.slice A n c, .int .i64 k] 90)).alloc (.cells #[.slice none 0 0, .int .i64 0] 90)) := ((Below.refl _ w).alloc (Nat.le_refl _) _).alloc (by simp) _
 generalize hW : ((w.alloc (.cells #[.slice A n c, .int .i64 k] 90)).alloc (.cells #[.slice none 0 0, .int .i64 0] 90)) = W at hE
 have HW := Lib.hid hW
 clear hW
 have hbox : ∀ wx, Ext W wx → wx.cell? ⟨w.heap.size, 0, none⟩ = some (.slice A n c) ∧ wx.cell? ⟨w.heap.size, 1, none⟩ = some (.int .i64 k) ∧ wx.cell? ⟨w.heap.size + 1, 0, none⟩ = some (.slice none 0 0) ∧ wx.cell? ⟨w.heap.size + 1, 1, none⟩ = some (.int .i64 0) ∧ wx.frozen? ⟨w.heap.size + 1, 0, none⟩ = false ∧ wx.frozen? ⟨w.heap.size + 1, 1, none⟩ = false := fun wx hx =>
  ⟨hx.cell (by rw [← HW.out]; simp [go_sem]), hx.cell (by rw [← HW.out]; simp [go_sem]), hx.cell (by rw [← HW.out]; simp [go_sem]), hx.cell (by rw [← HW.out]; simp [go_sem]),
   by rw [hx.frozen (by rw [← HW.out]; simp)]; rw [← HW.out]; simp [go_sem], by rw [hx.frozen (by rw [← HW.out]; simp)]; rw [← HW.out]; simp [go_sem]⟩
 have hlt : w.heap.size + 1 < W.heap.size := by rw [← HW.out]; simp
 have Hlen := Lib.hid hA.len
 go_enter Try.func49, Try.ntmps49
 go_wp2
 rw [HW.out]
 go_loopw [5, 6] (fun out i wr => ∃ j : Nat, j ≤ n ∧ i = .int .i64 j ∧ wr.ownsRow W.heap.size 5 1 out (min j N) (bytesOf (d.take (min j N))) ∧ Ext W wr) (fun _ i _ => n - (intOf i).toNat)
 case atStart => exact ⟨0, Nat.zero_le _, rfl, by rw [Nat.zero_min]; exact World.ownsRow_nil _ _ _ _, Ext.refl _⟩
 case round =>
  obtain ⟨j, hj, rfl, hown, hx⟩ := hrel
  obtain ⟨c0, c1, c2, c3, f2, f3⟩ := hbox wr hx
  rcases Nat.lt_or_ge j n with hjn | hjn
  ·have hAj := hA.ext (hE.trans hx)
   by_cases hjN : j < N
   ·have hmin : min j N = j := by omega
    rw [hmin] at hown
    have hdl : j < d.length := by rw [Hlen.out]; omega
    obtain ⟨a, rfl, hcell⟩ := hAj.cells (fun e => by rw [← bytesOf_length, e] at hdl; simp at hdl)
    have hc := hcell j _ (bytesOf_at hdl)
    have H1 := Lib.hid hmin
    have HT := Lib.hid ((htest j hjn).1 hjN)
    clear hmin hcell hAj htest
    have hstep : ∀ (v' : Value) (w' : World), w'.ownsRow W.heap.size 5 1 v' (j + 1) (bytesOf (d.take j) ++ [.int .u8 ((d[j]'hdl).toNat : Int)]) → w'.ownsRow W.heap.size 5 1 v' (min (j + 1) N) (bytesOf (d.take (min (j + 1) N))) := fun v' w' h => by
     rw [show min (j + 1) N = j + 1 by omega, bytesOf_take_succ hdl]; exact h
    have hj1 : j + 1 ≤ maxLen := by simp only [maxLen]; omega
    rcases Int.lt_or_le (j : Int) k with hjk | hjk
    ·go_wp2_with (at_builtin; refine wpList_append_own_any rfl (.tmp 26) (.tmp 32) _ _ rfl W.heap.size i0 _ 1 1 Try.underlying40 hi0 hz0 hz1 hz2 rfl (by decide) _ j (bytesOf (d.take j)) rfl (hown.alloc _) (some ⟨wr.heap.size, 0, none⟩) 1 1 [.int .u8 ((d[j]'hdl).toNat : Int)] rfl rfl (cells_one (by simp [go_sem])) (by intro h; cases h) (by intro u hu; simp at hu; subst hu; rfl) hj1 (by omega) (by have := hx.size; simp; omega) ?_; intro v' w' hown' hb')
     go_roundw
     case rel => exact ⟨j + 1, by omega, by go_num, hstep _ _ hown', (Below.alloc hx hx.size _).trans hb'⟩
     case measure => simp [intOf]; omega
    ·have hm : (j : Int) - k < more := by rcases HT.out with h | h <;> omega
     go_wp2_with (at_builtin; refine wpList_append_own_any rfl (.tmp 26) (.tmp 32) _ _ rfl W.heap.size i0 _ 1 1 Try.underlying40 hi0 hz0 hz1 hz2 rfl (by decide) _ j (bytesOf (d.take j)) rfl (hown.alloc _) (some ⟨wr.heap.size, 0, none⟩) 1 1 [.int .u8 ((d[j]'hdl).toNat : Int)] rfl rfl (cells_one (by simp [go_sem])) (by intro h; cases h) (by intro u hu; simp at hu; subst hu; rfl) hj1 (by omega) (by have := hx.size; simp; omega) ?_; intro v' w' hown' hb')
     go_roundw
     case rel => exact ⟨j + 1, by omega, by go_num, hstep _ _ hown', (Below.alloc hx hx.size _).trans hb'⟩
     case measure => simp [intOf]; omega
   ·have hk : ¬ (j : Int) < k := fun h => hjN ((htest j hjn).2 (.inl h))
    have hm : ¬ (j : Int) - k < more := fun h => hjN ((htest j hjn).2 (.inr h))
    have hmin : min (j + 1) N = min j N := by omega
    have H1 := Lib.hid hmin
    clear hmin hAj htest
    go_wp2
    go_roundw
    case rel => exact ⟨j + 1, by omega, by go_num, by rw [H1.out]; exact hown, hx⟩
    case measure => simp [intOf]; omega
  ·have hmin : min j N = N := by omega
   rw [hmin] at hown
   obtain ⟨A5, c5, rfl, g1, g2, g3, g4, g5⟩ := own_form hown
   have htag := own_tag hown
   clear hmin htest
   go_wp2
   refine bodyPost_ret (v := .agg #[.slice A5 N c5, .int .i64 N]) (by simp [results, Try.results49, go_sem, c2, c3]) rfl ⟨A5, c5, rfl, ⟨by rw [List.length_take, Hlen.out]; omega, g1, g2, g3, ?_⟩, fun hne => ?_, ?_⟩
   ·exact (g4.set (fun _ a ha => by have := g5 a ha; simp; omega) _).set (fun _ a ha => by have := g5 a ha; simp; omega) _
   ·obtain ⟨a, cur, rfl, hb, hh⟩ := htag (fun e => hne (by simpa [bytesOf] using e))
    refine ⟨a, cur, rfl, ?_⟩
    rw [Below.heap_setCell _ _ _ _ (by simp; omega), Below.heap_setCell _ _ _ _ (by simp; omega)]
    exact hh
   ·exact ((hE.trans hx).setCell (by simp) _).setCell (by simp) _
theorem rcut_any (A : Option Addr) (n c : Nat) (k more : Int) (d : List UInt8) (w : World) (hA : BytesV w A n c d) (hn : n ≤ 65536) (h0 : 0 ≤ k) (h1 : k ≤ n) :
  Calls Try.prog 49 #[.agg #[.slice A n c, .int .i64 k], .int .i64 more] w fun e w' =>
   ∃ A' c', e = .returned (.agg #[.slice A' (cutN n k more) c', .int .i64 (cutN n k more)]) ∧ BytesV w' A' (cutN n k more) c' (d.take (cutN n k more)) ∧ Ext w w' :=
 (rcut_new A n c k more d w hA hn h0 h1).mono fun _ _ ⟨A', c', e, hb, _, hx⟩ => ⟨A', c', e, hb, hx⟩
end Go.Proofs.Ytennnhfaghdeoaa
