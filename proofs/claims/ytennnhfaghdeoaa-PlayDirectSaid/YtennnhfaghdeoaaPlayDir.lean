import Derived.Test.YtennnhfaghdeoaaAccDo
import Derived.Test.YtennnhfaghdeoaaPlayCalls
import Derived.Test.YtennnhfaghdeoaaSureL
namespace Go.Proofs.Ytennnhfaghdeoaa
open Go.RowKit

/-! wealdlaw11.direct: a world in a place, and what makes accesses of it at once. -/
structure DirAt (w : World) (gP gM gw : Nat) (me : Int) (X : WldK) : Prop where
  np : gP ≠ gw
  nm : gM ≠ gw
  p : w.heap[gP]? = some (.cells #[.pointer (some ⟨gw, 0, none⟩)] 61 (0, 0))
  m : w.heap[gM]? = some (.cells #[.int .i64 me] 3 (0, 0))
  wld : ∃ (xA : Option Addr) (xq xc : Nat) (xB : Option Addr) (xb : Nat) (xC : Option Addr) (xd : Nat), w.heap[gw]? = some (.cells #[.int .i64 X.T, .int .i64 X.C, .slice xA xq xc, .int .u64 X.R, .slice xB X.n xb, .slice xC X.n xd] 32 (0, 0)) ∧ WldV w (.agg #[.int .i64 X.T, .int .i64 X.C, .slice xA xq xc, .int .u64 X.R, .slice xB X.n xb, .slice xC X.n xd]) X
theorem DirAt.ext {w w' : World} {gP gM gw : Nat} {me : Int} {X : WldK} (h : DirAt w gP gM gw me X) (hx : Ext w w') : DirAt w' gP gM gw me X :=
  ⟨h.np, h.nm, heap_ext h.p hx, heap_ext h.m hx, let ⟨xA, xq, xc, xB, xb, xC, xd, h1, h2⟩ := h.wld; ⟨xA, xq, xc, xB, xb, xC, xd, heap_ext h1 hx, h2.ext hx⟩⟩
theorem WldV.form {w : World} {v : Value} {X : WldK} (h : WldV w v X) : ∃ (A : Option Addr) (q c : Nat) (B : Option Addr) (b : Nat) (C : Option Addr) (d : Nat), v = .agg #[.int .i64 X.T, .int .i64 X.C, .slice A q c, .int .u64 X.R, .slice B X.n b, .slice C X.n d] := by
  obtain ⟨A, q, c, B, C, b, d, rfl, -, -⟩ := h
  exact ⟨A, q, c, B, b, C, d, rfl⟩
theorem ExtB.setAll {gw g : Nat} {w w' : World} (h : ExtB gw w w') (vs : List Value) (hg : g = gw ∨ w.heap.size ≤ g) : ∀ i, ExtB gw w (setAll g i vs w') := by
  induction vs generalizing w' with
  | nil => exact fun _ => h
  | cons u vs ih =>
    intro i
    refine ih ?_ (i + 1)
    rcases hg with rfl | hg
    · exact h.set i u
    · exact ⟨h.os, h.tape, h.output, by simpa [World.setCell] using h.size, fun k hk hne => (Below.heap_setCell _ _ _ _ (by simp; omega)).trans (h.block k hk hne)⟩
set_option maxRecDepth 100000 in
set_option maxHeartbeats 4000000 in
theorem dir_any (gP gM gw : Nat) (me : Int) (X : WldK) (av : Value) (A : AccK) (w : World) (h : DirAt w gP gM gw me X) (hA : AccV w av A) (hl2 : 2 ≤ X.ws.length) (hF : Fit X (useM A false)) :
    Calls Try.prog 82 #[av, .pointer (some ⟨gP, 0, none⟩), .pointer (some ⟨gM, 0, none⟩)] w fun e w' => ∃ r', e = .returned r' ∧ ResV w' r' (doR X A false) ∧ DirAt w' gP gM gw me (doK X me A false) ∧ ExtB gw w w' := by
  generalize hX1 : doK X me A false = X1
  generalize hR1 : doR X A false = R1
  have HX1 := Lib.hid hX1
  have HR1 := Lib.hid hR1
  have hl3 : 2 ≤ X1.ws.length := by
    rw [← hX1]; unfold doK
    split
    · split <;> exact hl2
    · split
      · split
        · rename_i h; simp only; rw [h]; exact hl2
        · exact hl2
      · simp only; rw [wordsK_length]; exact hl2
  clear hX1 hR1
  obtain ⟨np, nm, hp, hm, xA, xq, xc, xB, xb, xC, xd, hw, hV⟩ := h
  have hA_ := hA
  obtain ⟨D, m, cd, E, p, ce, rfl, -, -, -, -⟩ := hA_
  have hlP : gP < w.heap.size := (Array.getElem?_eq_some_iff.1 hp).1
  have hlM : gM < w.heap.size := (Array.getElem?_eq_some_iff.1 hm).1
  have hlw : gw < w.heap.size := (Array.getElem?_eq_some_iff.1 hw).1
  go_enter Try.func82, Try.ntmps82
  go_upto_region 1 with (fail)
  obtain ⟨hW, hG, hO⟩ := two_boxes7 w (.cells #[.int .i64 A.kind, .int .i64 A.cell, .int .u64 A.a, .int .u64 A.b, .slice D m cd, .slice E p ce] 42) (.cells #[.int .u64 0, .slice none 0 0, .bool false] 51)
  generalize (w.alloc (.cells #[.int .i64 A.kind, .int .i64 A.cell, .int .u64 A.a, .int .u64 A.b, .slice D m cd, .slice E p ce] 42)).alloc (.cells #[.int .u64 0, .slice none 0 0, .bool false] 51) = W at *
  have hX : ∀ wx, Ext W wx → wx.cell? ⟨gP, 0, none⟩ = some (.pointer (some ⟨gw, 0, none⟩)) ∧ wx.cell? ⟨gM, 0, none⟩ = some (.int .i64 me) ∧ wx.cell? ⟨gw, 0, none⟩ = some (.int .i64 X.T) ∧ wx.cell? ⟨gw, 1, none⟩ = some (.int .i64 X.C) ∧ wx.cell? ⟨gw, 2, none⟩ = some (.slice xA xq xc) ∧ wx.cell? ⟨gw, 3, none⟩ = some (.int .u64 X.R) ∧ wx.cell? ⟨gw, 4, none⟩ = some (.slice xB X.n xb) ∧ wx.cell? ⟨gw, 5, none⟩ = some (.slice xC X.n xd) ∧ wx.cell? ⟨w.heap.size, 0, none⟩ = some (.int .i64 A.kind) ∧ wx.cell? ⟨w.heap.size, 1, none⟩ = some (.int .i64 A.cell) ∧ wx.cell? ⟨w.heap.size, 2, none⟩ = some (.int .u64 A.a) ∧ wx.cell? ⟨w.heap.size, 3, none⟩ = some (.int .u64 A.b) ∧ wx.cell? ⟨w.heap.size, 4, none⟩ = some (.slice D m cd) ∧ wx.cell? ⟨w.heap.size, 5, none⟩ = some (.slice E p ce) := fun wx hx =>
    ⟨(hW.trans hx).cell (by simp [World.cell?, hp]), (hW.trans hx).cell (by simp [World.cell?, hm]), (hW.trans hx).cell (by simp [World.cell?, hw]), (hW.trans hx).cell (by simp [World.cell?, hw]), (hW.trans hx).cell (by simp [World.cell?, hw]), (hW.trans hx).cell (by simp [World.cell?, hw]), (hW.trans hx).cell (by simp [World.cell?, hw]), (hW.trans hx).cell (by simp [World.cell?, hw]), hx.cell (by simp [World.cell?, hG]), hx.cell (by simp [World.cell?, hG]), hx.cell (by simp [World.cell?, hG]), hx.cell (by simp [World.cell?, hG]), hx.cell (by simp [World.cell?, hG]), hx.cell (by simp [World.cell?, hG])⟩
  have HW := Lib.hid hW
  have HG := Lib.hid hG
  have HO := Lib.hid hO
  have Hp := Lib.hid hp
  have Hm := Lib.hid hm
  have Hw := Lib.hid hw
  clear hW hG hO hp hm hw
  refine' wp_region_late 8 [(6, 7)] ⟨((some 8, [], none) :: (some 9, [0], none) :: (some 10, [1], none) :: (some 11, [], none) :: (some 12, [], none) :: (some 13, [2, 3, 4], none) :: (some 7, [5], none) :: (some 14, [6], none) :: (some 15, [6], none) :: (some 5, [], none) :: (some 6, [], none) :: (none, [9, 7, 5, 0, 1, 2, 3, 4, 5, 6, 7, 9, 10], none) :: (none, [10, 8, 11, 0, 1, 2, 3, 4, 5, 6, 7, 8, 9, 10, 11], none) :: []), (0 :: 1 :: 3 :: 0 :: 0 :: 31 :: 63 :: 127 :: 127 :: 0 :: 0 :: 1791 :: 4095 :: []), (true :: true :: true :: true :: true :: false :: false :: false :: false :: true :: true :: []), [], 0⟩ 11 20 ((0, 8) :: (1, 9) :: (2, 10) :: (3, 11) :: (4, 12) :: (5, 13) :: (6, 7) :: (7, 14) :: (8, 15) :: (9, 5) :: (10, 6) :: []) ((0, 8) :: (1, 9) :: (2, 10) :: (3, 11) :: (4, 12) :: (5, 13) :: (6, 7) :: (7, 14) :: (8, 15) :: (9, 5) :: (10, 6) :: []) (.det _ :: .det _ :: .det _ :: .det _ :: .det _ :: Good.of (fun v w => ∃ v1 r1, v = .tuple #[v1, r1] ∧ WldV w v1 X1 ∧ ResV w r1 R1) (fun v w w' h hx => let ⟨v1, r1, e, h1, h2⟩ := h; ⟨v1, r1, e, h1.ext hx, h2.ext hx⟩) :: Good.of (fun v w => ∃ v1 r1, v = .tuple #[v1, r1] ∧ WldV w v1 X1 ∧ ResV w r1 R1) (fun v w w' h hx => let ⟨v1, r1, e, h1, h2⟩ := h; ⟨v1, r1, e, h1.ext hx, h2.ext hx⟩) :: Good.of (fun v w => WldV w v X1) (fun v w w' h hx => h.ext hx) :: Good.of (fun v w => ResV w v R1) (fun v w w' h hx => h.ext hx) :: Good.box 32 #[.int .i64 0, .int .i64 0, .slice none 0 0, .int .u64 0, .slice none 0 0, .slice none 0 0] W.heap.size :: Good.box 51 #[.int .u64 0, .slice none 0 0, .bool false] W.heap.size :: []) (by kernel_rfl) (by kernel_rfl) (by kernel_rfl) rfl (by kernel_rfl) (by kernel_rfl) rfl (by kernel_rfl) (by kernel_rfl) (by kernel_rfl) rfl (fun _ _ _ _ _ h => h) ?hlate ?hone ?hend
  case hlate =>
    intro V hV wx hx ρ hρ hs o ho
    obtain ⟨sn6, -⟩ := hs
    rw [place_at hV (k := 6) rfl] at sn6
    rw [place_at hV (k := 8) rfl]
    obtain rfl := Option.some.inj ho
    obtain ⟨v1, r1, e, h1, h2⟩ := sn6
    refine ⟨r1, fun w'' => ?_, h2⟩
    go_simp
  case hone =>
    intro CS frS VS hCS ha hV
    have qs1 := slot_val (t := 1) ha rfl
    simp only [List.getElem_toArray, List.getElem_cons_succ, List.getElem_cons_zero] at qs1
    have qs2 := slot_val (t := 2) ha rfl
    simp only [List.getElem_toArray, List.getElem_cons_succ, List.getElem_cons_zero] at qs2
    have qs3 := slot_val (t := 3) ha rfl
    simp only [List.getElem_toArray, List.getElem_cons_succ, List.getElem_cons_zero] at qs3
    have HCS := Lib.hid hCS
    have HVS := Lib.hid hV
    clear ha hCS hV
    -- 0: slot 8 := Op.load 61 t1
    refine sure_det (js := []) (ts := [1]) (gd := none) (place_at HVS.out (k := 0) rfl) (by rw [HCS.out]; kernel_rfl) ?_ ?_
    · intro wx hx ρ hρ hs hf
      have hρc := hρ.const
      have hρf := hρ.func
      obtain ⟨fx1, -⟩ := hf
      rw [qs1] at fx1
      clear hs
      clear HCS HVS qs1 qs2 qs3
      refine run_plain ?_
      obtain ⟨k0, k1, k2, k3, k4, k5, k6, k7, k8, k9, k10, k11, k12, k13⟩ := hX wx hx.drawn
      unfold runs
      go_simp
      exact detK.mk
    -- 1: slot 9 := Op.nilCheck t8
    refine sure_det (js := [(0, 8)]) (ts := []) (gd := none) (place_at HVS.out (k := 1) rfl) (by rw [HCS.out]; kernel_rfl) ?_ ?_
    · intro wx hx ρ hρ hs hf
      have hρc := hρ.const
      have hρf := hρ.func
      obtain ⟨sn0, -⟩ := hs
      rw [place_at HVS.out (k := 0) rfl] at sn0
      replace sn0 : ρ (.tmp 8) = _ := sn0
      clear hf
      clear HCS HVS qs1 qs2 qs3
      refine run_plain ?_
      unfold runs
      go_simp
      exact detK.mk
    -- 2: slot 10 := Op.load 32 t9
    refine sure_det (js := [(1, 9)]) (ts := []) (gd := none) (place_at HVS.out (k := 2) rfl) (by rw [HCS.out]; kernel_rfl) ?_ ?_
    · intro wx hx ρ hρ hs hf
      have hρc := hρ.const
      have hρf := hρ.func
      obtain ⟨sn1, -⟩ := hs
      rw [place_at HVS.out (k := 1) rfl] at sn1
      replace sn1 : ρ (.tmp 9) = _ := sn1
      clear hf
      clear HCS HVS qs1 qs2 qs3
      refine run_plain ?_
      obtain ⟨k0, k1, k2, k3, k4, k5, k6, k7, k8, k9, k10, k11, k12, k13⟩ := hX wx hx.drawn
      unfold runs
      go_simp
      exact detK.mk
    -- 3: slot 11 := Op.load 3 t2
    refine sure_det (js := []) (ts := [2]) (gd := none) (place_at HVS.out (k := 3) rfl) (by rw [HCS.out]; kernel_rfl) ?_ ?_
    · intro wx hx ρ hρ hs hf
      have hρc := hρ.const
      have hρf := hρ.func
      obtain ⟨fx2, -⟩ := hf
      rw [qs2] at fx2
      clear hs
      clear HCS HVS qs1 qs2 qs3
      refine run_plain ?_
      obtain ⟨k0, k1, k2, k3, k4, k5, k6, k7, k8, k9, k10, k11, k12, k13⟩ := hX wx hx.drawn
      unfold runs
      go_simp
      exact detK.mk
    -- 4: slot 12 := Op.load 42 t3
    refine sure_det (js := []) (ts := [3]) (gd := none) (place_at HVS.out (k := 4) rfl) (by rw [HCS.out]; kernel_rfl) ?_ ?_
    · intro wx hx ρ hρ hs hf
      have hρc := hρ.const
      have hρf := hρ.func
      obtain ⟨fx3, -⟩ := hf
      rw [qs3] at fx3
      clear hs
      clear HCS HVS qs1 qs2 qs3
      refine run_plain ?_
      obtain ⟨k0, k1, k2, k3, k4, k5, k6, k7, k8, k9, k10, k11, k12, k13⟩ := hX wx hx.drawn
      unfold runs
      go_simp
      exact detK.mk
    -- 5: slot 13 := Op.call { call ( 20), args := #[t10, t11, t12, (Value.bool false)], argTypes := #[32, 3, 4
    refine sure_op (js := [(2, 10), (3, 11), (4, 12)]) (ts := []) (gd := none) (place_at HVS.out (k := 5) rfl) (by rw [HCS.out]; kernel_rfl) ?_ ?_
    · intro wx hx ρ hρ hs hf
      have hρc := hρ.const
      have hρf := hρ.func
      obtain ⟨sn2, sn3, sn4, -⟩ := hs
      rw [place_at HVS.out (k := 2) rfl] at sn2
      replace sn2 : ρ (.tmp 10) = _ := sn2
      rw [place_at HVS.out (k := 3) rfl] at sn3
      replace sn3 : ρ (.tmp 11) = _ := sn3
      rw [place_at HVS.out (k := 4) rfl] at sn4
      replace sn4 : ρ (.tmp 12) = _ := sn4
      clear hf
      clear HCS HVS qs1 qs2 qs3
      refine run_plain ?_
      refine op_call rfl hρ Try.call20 (map_four sn2 sn3 sn4 (hρ.const _)) ?_
      refine Calls.mono (do_all _ _ X me A false _ ((hV.ext HW.out).ext hx.drawn) ((hA.ext HW.out).ext hx.drawn) hF) ?_
      rintro e w' ⟨v1, r1, rfl, h1, h2, hx5⟩
      rw [HX1.out] at h1
      rw [HR1.out] at h2
      exact ⟨_, rfl, hx5, v1, r1, rfl, h1, h2⟩
    -- 6: slot 7 := Op.move t13
    refine sure_op (js := [(5, 13)]) (ts := []) (gd := none) (place_at HVS.out (k := 6) rfl) (by rw [HCS.out]; kernel_rfl) ?_ ?_
    · intro wx hx ρ hρ hs hf
      have hρc := hρ.const
      have hρf := hρ.func
      obtain ⟨sn5, -⟩ := hs
      rw [place_at HVS.out (k := 5) rfl] at sn5
      replace sn5 : ∃ v1 r1, (ρ (.tmp 13)) = .tuple #[v1, r1] ∧ WldV wx v1 X1 ∧ ResV wx r1 R1 := sn5
      clear hf
      clear HCS HVS qs1 qs2 qs3
      refine run_plain ?_
      refine op_move rfl rfl ?_
      exact ⟨Ext.refl _, sn5⟩
    -- 7: slot 14 := Op.extract t7 0
    refine sure_op (js := [(6, 7)]) (ts := []) (gd := none) (place_at HVS.out (k := 7) rfl) (by rw [HCS.out]; kernel_rfl) ?_ ?_
    · intro wx hx ρ hρ hs hf
      have hρc := hρ.const
      have hρf := hρ.func
      obtain ⟨sn6, -⟩ := hs
      rw [place_at HVS.out (k := 6) rfl] at sn6
      replace sn6 : ∃ v1 r1, (ρ (.tmp 7)) = .tuple #[v1, r1] ∧ WldV wx v1 X1 ∧ ResV wx r1 R1 := sn6
      clear hf
      clear HCS HVS qs1 qs2 qs3
      refine run_plain ?_
      obtain ⟨v1, r1, e, h1, h2⟩ := sn6
      unfold runs
      go_simp
      exact ⟨Ext.refl _, h1⟩
    -- 8: slot 15 := Op.extract t7 1
    refine sure_op (js := [(6, 7)]) (ts := []) (gd := none) (place_at HVS.out (k := 8) rfl) (by rw [HCS.out]; kernel_rfl) ?_ ?_
    · intro wx hx ρ hρ hs hf
      have hρc := hρ.const
      have hρf := hρ.func
      obtain ⟨sn6, -⟩ := hs
      rw [place_at HVS.out (k := 6) rfl] at sn6
      replace sn6 : ∃ v1 r1, (ρ (.tmp 7)) = .tuple #[v1, r1] ∧ WldV wx v1 X1 ∧ ResV wx r1 R1 := sn6
      clear hf
      clear HCS HVS qs1 qs2 qs3
      refine run_plain ?_
      obtain ⟨v1, r1, e, h1, h2⟩ := sn6
      unfold runs
      go_simp
      exact ⟨Ext.refl _, h2⟩
    -- 9: slot 5 := Op.alloc 32
    refine sure_op (js := []) (ts := []) (gd := none) (place_at HVS.out (k := 9) rfl) (by rw [HCS.out]; kernel_rfl) ?_ ?_
    · intro wx hx ρ hρ hs hf
      have hρc := hρ.const
      have hρf := hρ.func
      clear hs
      clear hf
      clear HCS HVS qs1 qs2 qs3
      refine run_plain ?_
      refine op_alloc rfl (Try.zeroValue32 _) ?_
      exact ⟨Ext.refl _ |>.alloc (Nat.le_refl _) _, wx.heap.size, rfl, hx.size, heap_alloc_new wx _⟩
    -- 10: slot 6 := Op.alloc 51
    refine sure_op (js := []) (ts := []) (gd := none) (place_at HVS.out (k := 10) rfl) (by rw [HCS.out]; kernel_rfl) ?_ ?_
    · intro wx hx ρ hρ hs hf
      have hρc := hρ.const
      have hρf := hρ.func
      clear hs
      clear hf
      clear HCS HVS qs1 qs2 qs3
      refine run_plain ?_
      refine op_alloc rfl (Try.zeroValue51 _) ?_
      exact ⟨Ext.refl _ |>.alloc (Nat.le_refl _) _, wx.heap.size, rfl, hx.size, heap_alloc_new wx _⟩
    exact trivial
  case hend =>
    intro xs wx hx hg
    have gk0 : xs 0 = _ := goods_get hg (i := 0) (j := 0) (d := 8) rfl
    have gk1 : xs 1 = _ := goods_get hg (i := 1) (j := 1) (d := 9) rfl
    have gk2 : xs 2 = _ := goods_get hg (i := 2) (j := 2) (d := 10) rfl
    have gk3 : xs 3 = _ := goods_get hg (i := 3) (j := 3) (d := 11) rfl
    have gk4 : xs 4 = _ := goods_get hg (i := 4) (j := 4) (d := 12) rfl
    have gk5 : ∃ v1 r1, (xs 5) = .tuple #[v1, r1] ∧ WldV wx v1 X1 ∧ ResV wx r1 R1 := goods_get hg (i := 5) (j := 5) (d := 13) rfl
    have gk6 : ∃ v1 r1, (xs 6) = .tuple #[v1, r1] ∧ WldV wx v1 X1 ∧ ResV wx r1 R1 := goods_get hg (i := 6) (j := 6) (d := 7) rfl
    have gk7 : WldV wx (xs 7) X1 := goods_get hg (i := 7) (j := 7) (d := 14) rfl
    have gk8 : ResV wx (xs 8) R1 := goods_get hg (i := 8) (j := 8) (d := 15) rfl
    have gk9 : boxG 32 #[.int .i64 0, .int .i64 0, .slice none 0 0, .int .u64 0, .slice none 0 0, .slice none 0 0] W.heap.size (xs 9) wx := goods_get hg (i := 9) (j := 9) (d := 5) rfl
    have gk10 : boxG 51 #[.int .u64 0, .slice none 0 0, .bool false] W.heap.size (xs 10) wx := goods_get hg (i := 10) (j := 10) (d := 6) rfl
    clear hg
    simp only [putAll, gk0, gk1, gk2, gk3, gk4]
    clear gk0 gk1 gk2 gk3 gk4
    generalize xs 5 = vx5 at gk5 ⊢
    generalize xs 6 = vx6 at gk6 ⊢
    generalize xs 7 = vx7 at gk7 ⊢
    generalize xs 8 = vx8 at gk8 ⊢
    generalize xs 9 = vx9 at gk9 ⊢
    generalize xs 10 = vx10 at gk10 ⊢
    clear xs
    simp only [Act.put, List.setIfInBounds_toArray, List.set_cons_zero, List.set_cons_succ, List.drop_succ_cons, List.drop_zero]
    obtain ⟨gA, rfl, hgA, hcA⟩ := gk9
    obtain ⟨gB, rfl, hgB, hcB⟩ := gk10
    have hv1 := gk7
    have hr1 := gk8
    obtain ⟨zA, zq, zc, zB, zb, zC, zd, rfl⟩ := gk7.form
    clear gk7
    obtain ⟨yS, ys, yt, rfl, -⟩ := gk8
    clear gk5 gk6
    have hne : gA ≠ gB := fun e => by subst e; rw [hcA] at hcB; cases hcB
    have hE2 : Ext W (((((((((wx.setCell ⟨gA, 0, none⟩ (.int .i64 X1.T)).setCell ⟨gA, 1, none⟩ (.int .i64 X1.C)).setCell ⟨gA, 2, none⟩ (.slice zA zq zc)).setCell ⟨gA, 3, none⟩ (.int .u64 X1.R)).setCell ⟨gA, 4, none⟩ (.slice zB X1.n zb)).setCell ⟨gA, 5, none⟩ (.slice zC X1.n zd)).setCell ⟨gB, 0, none⟩ (.int .u64 R1.N)).setCell ⟨gB, 1, none⟩ (.slice yS ys yt)).setCell ⟨gB, 2, none⟩ (.bool R1.fail)) := setAll_ext (g := gB) (vs := [.int .u64 R1.N, .slice yS ys yt, .bool R1.fail]) (i := 0) (setAll_ext (g := gA) (vs := [.int .i64 X1.T, .int .i64 X1.C, .slice zA zq zc, .int .u64 X1.R, .slice zB X1.n zb, .slice zC X1.n zd]) (i := 0) hx.drawn hgA) hgB
    have hfA : (((((((((wx.setCell ⟨gA, 0, none⟩ (.int .i64 X1.T)).setCell ⟨gA, 1, none⟩ (.int .i64 X1.C)).setCell ⟨gA, 2, none⟩ (.slice zA zq zc)).setCell ⟨gA, 3, none⟩ (.int .u64 X1.R)).setCell ⟨gA, 4, none⟩ (.slice zB X1.n zb)).setCell ⟨gA, 5, none⟩ (.slice zC X1.n zd)).setCell ⟨gB, 0, none⟩ (.int .u64 R1.N)).setCell ⟨gB, 1, none⟩ (.slice yS ys yt)).setCell ⟨gB, 2, none⟩ (.bool R1.fail)).heap[gA]? = some (.cells #[.int .i64 X1.T, .int .i64 X1.C, .slice zA zq zc, .int .u64 X1.R, .slice zB X1.n zb, .slice zC X1.n zd] 32 (0, 0)) := (setAll_other (g := gB) hne [.int .u64 R1.N, .slice yS ys yt, .bool R1.fail] 0 (setAll gA 0 [.int .i64 X1.T, .int .i64 X1.C, .slice zA zq zc, .int .u64 X1.R, .slice zB X1.n zb, .slice zC X1.n zd] wx)).trans (setAll_all (vs := [.int .i64 X1.T, .int .i64 X1.C, .slice zA zq zc, .int .u64 X1.R, .slice zB X1.n zb, .slice zC X1.n zd]) hcA rfl)
    have hBm : (setAll gA 0 [.int .i64 X1.T, .int .i64 X1.C, .slice zA zq zc, .int .u64 X1.R, .slice zB X1.n zb, .slice zC X1.n zd] wx).heap[gB]? = _ := (setAll_other (g := gA) (Ne.symm hne) [.int .i64 X1.T, .int .i64 X1.C, .slice zA zq zc, .int .u64 X1.R, .slice zB X1.n zb, .slice zC X1.n zd] 0 wx).trans hcB
    have hfB : (((((((((wx.setCell ⟨gA, 0, none⟩ (.int .i64 X1.T)).setCell ⟨gA, 1, none⟩ (.int .i64 X1.C)).setCell ⟨gA, 2, none⟩ (.slice zA zq zc)).setCell ⟨gA, 3, none⟩ (.int .u64 X1.R)).setCell ⟨gA, 4, none⟩ (.slice zB X1.n zb)).setCell ⟨gA, 5, none⟩ (.slice zC X1.n zd)).setCell ⟨gB, 0, none⟩ (.int .u64 R1.N)).setCell ⟨gB, 1, none⟩ (.slice yS ys yt)).setCell ⟨gB, 2, none⟩ (.bool R1.fail)).heap[gB]? = some (.cells #[.int .u64 R1.N, .slice yS ys yt, .bool R1.fail] 51 (0, 0)) := setAll_all (vs := [.int .u64 R1.N, .slice yS ys yt, .bool R1.fail]) hBm rfl
    have hv2 := (hv1.but hl3 (But.all gA [.int .i64 X1.T, .int .i64 X1.C, .slice zA zq zc, .int .u64 X1.R, .slice zB X1.n zb, .slice zC X1.n zd] 0 wx) hcA rfl).but hl3 (But.all gB [.int .u64 R1.N, .slice yS ys yt, .bool R1.fail] 0 _) hBm rfl
    change WldV (((((((((wx.setCell ⟨gA, 0, none⟩ (.int .i64 X1.T)).setCell ⟨gA, 1, none⟩ (.int .i64 X1.C)).setCell ⟨gA, 2, none⟩ (.slice zA zq zc)).setCell ⟨gA, 3, none⟩ (.int .u64 X1.R)).setCell ⟨gA, 4, none⟩ (.slice zB X1.n zb)).setCell ⟨gA, 5, none⟩ (.slice zC X1.n zd)).setCell ⟨gB, 0, none⟩ (.int .u64 R1.N)).setCell ⟨gB, 1, none⟩ (.slice yS ys yt)).setCell ⟨gB, 2, none⟩ (.bool R1.fail)) _ _ at hv2
    have hr2 := (hr1.but (But.all gA [.int .i64 X1.T, .int .i64 X1.C, .slice zA zq zc, .int .u64 X1.R, .slice zB X1.n zb, .slice zC X1.n zd] 0 wx) hcA rfl).but (But.all gB [.int .u64 R1.N, .slice yS ys yt, .bool R1.fail] 0 _) hBm rfl
    change ResV (((((((((wx.setCell ⟨gA, 0, none⟩ (.int .i64 X1.T)).setCell ⟨gA, 1, none⟩ (.int .i64 X1.C)).setCell ⟨gA, 2, none⟩ (.slice zA zq zc)).setCell ⟨gA, 3, none⟩ (.int .u64 X1.R)).setCell ⟨gA, 4, none⟩ (.slice zB X1.n zb)).setCell ⟨gA, 5, none⟩ (.slice zC X1.n zd)).setCell ⟨gB, 0, none⟩ (.int .u64 R1.N)).setCell ⟨gB, 1, none⟩ (.slice yS ys yt)).setCell ⟨gB, 2, none⟩ (.bool R1.fail)) _ _ at hr2
    have a0 : wx.cell? ⟨gA, 0, none⟩ = some (.int .i64 0) := by simp [World.cell?, hcA]
    have af0 : wx.frozen? ⟨gA, 0, none⟩ = false := by simp [World.frozen?, hcA]
    have a1 : wx.cell? ⟨gA, 1, none⟩ = some (.int .i64 0) := by simp [World.cell?, hcA]
    have af1 : wx.frozen? ⟨gA, 1, none⟩ = false := by simp [World.frozen?, hcA]
    have a2 : wx.cell? ⟨gA, 2, none⟩ = some (.slice none 0 0) := by simp [World.cell?, hcA]
    have af2 : wx.frozen? ⟨gA, 2, none⟩ = false := by simp [World.frozen?, hcA]
    have a3 : wx.cell? ⟨gA, 3, none⟩ = some (.int .u64 0) := by simp [World.cell?, hcA]
    have af3 : wx.frozen? ⟨gA, 3, none⟩ = false := by simp [World.frozen?, hcA]
    have a4 : wx.cell? ⟨gA, 4, none⟩ = some (.slice none 0 0) := by simp [World.cell?, hcA]
    have af4 : wx.frozen? ⟨gA, 4, none⟩ = false := by simp [World.frozen?, hcA]
    have a5 : wx.cell? ⟨gA, 5, none⟩ = some (.slice none 0 0) := by simp [World.cell?, hcA]
    have af5 : wx.frozen? ⟨gA, 5, none⟩ = false := by simp [World.frozen?, hcA]
    have b0 : wx.cell? ⟨gB, 0, none⟩ = some (.int .u64 0) := by simp [World.cell?, hcB]
    have bf0 : wx.frozen? ⟨gB, 0, none⟩ = false := by simp [World.frozen?, hcB]
    have b1 : wx.cell? ⟨gB, 1, none⟩ = some (.slice none 0 0) := by simp [World.cell?, hcB]
    have bf1 : wx.frozen? ⟨gB, 1, none⟩ = false := by simp [World.frozen?, hcB]
    have b2 : wx.cell? ⟨gB, 2, none⟩ = some (.bool false) := by simp [World.cell?, hcB]
    have bf2 : wx.frozen? ⟨gB, 2, none⟩ = false := by simp [World.frozen?, hcB]
    go_upto_region 2 with (fail)
    generalize (((((((((wx.setCell ⟨gA, 0, none⟩ (.int .i64 X1.T)).setCell ⟨gA, 1, none⟩ (.int .i64 X1.C)).setCell ⟨gA, 2, none⟩ (.slice zA zq zc)).setCell ⟨gA, 3, none⟩ (.int .u64 X1.R)).setCell ⟨gA, 4, none⟩ (.slice zB X1.n zb)).setCell ⟨gA, 5, none⟩ (.slice zC X1.n zd)).setCell ⟨gB, 0, none⟩ (.int .u64 R1.N)).setCell ⟨gB, 1, none⟩ (.slice yS ys yt)).setCell ⟨gB, 2, none⟩ (.bool R1.fail)) = wf at *
    clear a0 af0 a1 af1 a2 af2 a3 af3 a4 af4 a5 af5 b0 bf0 b1 bf1 b2 bf2 hBm hcA hcB hv1 hr1 hx hX
    have hWf := HW.out.trans hE2
    have hG := heap_ext HG.out hE2
    have hO := heap_ext HO.out hE2
    have hp := heap_ext Hp.out hWf
    have hm := heap_ext Hm.out hWf
    have hw := heap_ext Hw.out hWf
    have hWs : w.heap.size + 1 < W.heap.size := (Array.getElem?_eq_some_iff.1 HO.out).1
    have np' : ¬ gw = gP := fun e => np e.symm
    have nO : ¬ gw = w.heap.size + 1 := by omega
    have nB : ¬ gw = gB := by omega
    have nA : ¬ gw = gA := by omega
    have nOB : ¬ w.heap.size + 1 = gB := by omega
    have b0' : wf.cell? ⟨gP, 0, none⟩ = some (.pointer (some ⟨gw, 0, none⟩)) := by simp [World.cell?, hp]
    have a0 : wf.cell? ⟨gA, 0, none⟩ = some (.int .i64 X1.T) := by simp [World.cell?, hfA]
    have a1 : wf.cell? ⟨gA, 1, none⟩ = some (.int .i64 X1.C) := by simp [World.cell?, hfA]
    have a2 : wf.cell? ⟨gA, 2, none⟩ = some (.slice zA zq zc) := by simp [World.cell?, hfA]
    have a3 : wf.cell? ⟨gA, 3, none⟩ = some (.int .u64 X1.R) := by simp [World.cell?, hfA]
    have a4 : wf.cell? ⟨gA, 4, none⟩ = some (.slice zB X1.n zb) := by simp [World.cell?, hfA]
    have a5 : wf.cell? ⟨gA, 5, none⟩ = some (.slice zC X1.n zd) := by simp [World.cell?, hfA]
    have e0 : wf.cell? ⟨gw, 0, none⟩ = some (.int .i64 X.T) := by simp [World.cell?, hw]
    have ef0 : wf.frozen? ⟨gw, 0, none⟩ = false := by simp [World.frozen?, hw]
    have e1 : wf.cell? ⟨gw, 1, none⟩ = some (.int .i64 X.C) := by simp [World.cell?, hw]
    have ef1 : wf.frozen? ⟨gw, 1, none⟩ = false := by simp [World.frozen?, hw]
    have e2 : wf.cell? ⟨gw, 2, none⟩ = some (.slice xA xq xc) := by simp [World.cell?, hw]
    have ef2 : wf.frozen? ⟨gw, 2, none⟩ = false := by simp [World.frozen?, hw]
    have e3 : wf.cell? ⟨gw, 3, none⟩ = some (.int .u64 X.R) := by simp [World.cell?, hw]
    have ef3 : wf.frozen? ⟨gw, 3, none⟩ = false := by simp [World.frozen?, hw]
    have e4 : wf.cell? ⟨gw, 4, none⟩ = some (.slice xB X.n xb) := by simp [World.cell?, hw]
    have ef4 : wf.frozen? ⟨gw, 4, none⟩ = false := by simp [World.frozen?, hw]
    have e5 : wf.cell? ⟨gw, 5, none⟩ = some (.slice xC X.n xd) := by simp [World.cell?, hw]
    have ef5 : wf.frozen? ⟨gw, 5, none⟩ = false := by simp [World.frozen?, hw]
    go_upto_region 3 with (fail)
    have hB3 : ExtB gw w ((((((wf.setCell ⟨gw, 0, none⟩ (.int .i64 X1.T)).setCell ⟨gw, 1, none⟩ (.int .i64 X1.C)).setCell ⟨gw, 2, none⟩ (.slice zA zq zc)).setCell ⟨gw, 3, none⟩ (.int .u64 X1.R)).setCell ⟨gw, 4, none⟩ (.slice zB X1.n zb)).setCell ⟨gw, 5, none⟩ (.slice zC X1.n zd)) := ExtB.setAll (ExtB.of hWf) [.int .i64 X1.T, .int .i64 X1.C, .slice zA zq zc, .int .u64 X1.R, .slice zB X1.n zb, .slice zC X1.n zd] (.inl rfl) 0
    have hp3 : ((((((wf.setCell ⟨gw, 0, none⟩ (.int .i64 X1.T)).setCell ⟨gw, 1, none⟩ (.int .i64 X1.C)).setCell ⟨gw, 2, none⟩ (.slice zA zq zc)).setCell ⟨gw, 3, none⟩ (.int .u64 X1.R)).setCell ⟨gw, 4, none⟩ (.slice zB X1.n zb)).setCell ⟨gw, 5, none⟩ (.slice zC X1.n zd)).heap[gP]? = _ := (setAll_other (g := gw) np [.int .i64 X1.T, .int .i64 X1.C, .slice zA zq zc, .int .u64 X1.R, .slice zB X1.n zb, .slice zC X1.n zd] 0 wf).trans hp
    have hm3 : ((((((wf.setCell ⟨gw, 0, none⟩ (.int .i64 X1.T)).setCell ⟨gw, 1, none⟩ (.int .i64 X1.C)).setCell ⟨gw, 2, none⟩ (.slice zA zq zc)).setCell ⟨gw, 3, none⟩ (.int .u64 X1.R)).setCell ⟨gw, 4, none⟩ (.slice zB X1.n zb)).setCell ⟨gw, 5, none⟩ (.slice zC X1.n zd)).heap[gM]? = _ := (setAll_other (g := gw) nm [.int .i64 X1.T, .int .i64 X1.C, .slice zA zq zc, .int .u64 X1.R, .slice zB X1.n zb, .slice zC X1.n zd] 0 wf).trans hm
    have hw3 : ((((((wf.setCell ⟨gw, 0, none⟩ (.int .i64 X1.T)).setCell ⟨gw, 1, none⟩ (.int .i64 X1.C)).setCell ⟨gw, 2, none⟩ (.slice zA zq zc)).setCell ⟨gw, 3, none⟩ (.int .u64 X1.R)).setCell ⟨gw, 4, none⟩ (.slice zB X1.n zb)).setCell ⟨gw, 5, none⟩ (.slice zC X1.n zd)).heap[gw]? = some (.cells #[.int .i64 X1.T, .int .i64 X1.C, .slice zA zq zc, .int .u64 X1.R, .slice zB X1.n zb, .slice zC X1.n zd] 32 (0, 0)) := setAll_all (vs := [.int .i64 X1.T, .int .i64 X1.C, .slice zA zq zc, .int .u64 X1.R, .slice zB X1.n zb, .slice zC X1.n zd]) hw rfl
    have hO3 : ((((((wf.setCell ⟨gw, 0, none⟩ (.int .i64 X1.T)).setCell ⟨gw, 1, none⟩ (.int .i64 X1.C)).setCell ⟨gw, 2, none⟩ (.slice zA zq zc)).setCell ⟨gw, 3, none⟩ (.int .u64 X1.R)).setCell ⟨gw, 4, none⟩ (.slice zB X1.n zb)).setCell ⟨gw, 5, none⟩ (.slice zC X1.n zd)).heap[w.heap.size + 1]? = _ := (setAll_other (g := gw) (fun e => nO e.symm) [.int .i64 X1.T, .int .i64 X1.C, .slice zA zq zc, .int .u64 X1.R, .slice zB X1.n zb, .slice zC X1.n zd] 0 wf).trans hO
    have hfB3 : ((((((wf.setCell ⟨gw, 0, none⟩ (.int .i64 X1.T)).setCell ⟨gw, 1, none⟩ (.int .i64 X1.C)).setCell ⟨gw, 2, none⟩ (.slice zA zq zc)).setCell ⟨gw, 3, none⟩ (.int .u64 X1.R)).setCell ⟨gw, 4, none⟩ (.slice zB X1.n zb)).setCell ⟨gw, 5, none⟩ (.slice zC X1.n zd)).heap[gB]? = _ := (setAll_other (g := gw) (fun e => nB e.symm) [.int .i64 X1.T, .int .i64 X1.C, .slice zA zq zc, .int .u64 X1.R, .slice zB X1.n zb, .slice zC X1.n zd] 0 wf).trans hfB
    have hv3 := hv2.but hl3 (But.all gw [.int .i64 X1.T, .int .i64 X1.C, .slice zA zq zc, .int .u64 X1.R, .slice zB X1.n zb, .slice zC X1.n zd] 0 wf) hw rfl
    change WldV ((((((wf.setCell ⟨gw, 0, none⟩ (.int .i64 X1.T)).setCell ⟨gw, 1, none⟩ (.int .i64 X1.C)).setCell ⟨gw, 2, none⟩ (.slice zA zq zc)).setCell ⟨gw, 3, none⟩ (.int .u64 X1.R)).setCell ⟨gw, 4, none⟩ (.slice zB X1.n zb)).setCell ⟨gw, 5, none⟩ (.slice zC X1.n zd)) _ _ at hv3
    have hr3 := hr2.but (But.all gw [.int .i64 X1.T, .int .i64 X1.C, .slice zA zq zc, .int .u64 X1.R, .slice zB X1.n zb, .slice zC X1.n zd] 0 wf) hw rfl
    change ResV ((((((wf.setCell ⟨gw, 0, none⟩ (.int .i64 X1.T)).setCell ⟨gw, 1, none⟩ (.int .i64 X1.C)).setCell ⟨gw, 2, none⟩ (.slice zA zq zc)).setCell ⟨gw, 3, none⟩ (.int .u64 X1.R)).setCell ⟨gw, 4, none⟩ (.slice zB X1.n zb)).setCell ⟨gw, 5, none⟩ (.slice zC X1.n zd)) _ _ at hr3
    generalize ((((((wf.setCell ⟨gw, 0, none⟩ (.int .i64 X1.T)).setCell ⟨gw, 1, none⟩ (.int .i64 X1.C)).setCell ⟨gw, 2, none⟩ (.slice zA zq zc)).setCell ⟨gw, 3, none⟩ (.int .u64 X1.R)).setCell ⟨gw, 4, none⟩ (.slice zB X1.n zb)).setCell ⟨gw, 5, none⟩ (.slice zC X1.n zd)) = wg at *
    clear b0' a0 a1 a2 a3 a4 a5 e0 e1 e2 e3 e4 e5 ef0 ef1 ef2 ef3 ef4 ef5 hfA hfB hw hp hm hO hG hv2 hr2 hV
    have b0 : wg.cell? ⟨gB, 0, none⟩ = some (.int .u64 R1.N) := by simp [World.cell?, hfB3]
    have b1 : wg.cell? ⟨gB, 1, none⟩ = some (.slice yS ys yt) := by simp [World.cell?, hfB3]
    have b2 : wg.cell? ⟨gB, 2, none⟩ = some (.bool R1.fail) := by simp [World.cell?, hfB3]
    have o0 : wg.cell? ⟨w.heap.size + 1, 0, none⟩ = some (.int .u64 0) := by simp [World.cell?, hO3]
    have of0 : wg.frozen? ⟨w.heap.size + 1, 0, none⟩ = false := by simp [World.frozen?, hO3]
    have o1 : wg.cell? ⟨w.heap.size + 1, 1, none⟩ = some (.slice none 0 0) := by simp [World.cell?, hO3]
    have of1 : wg.frozen? ⟨w.heap.size + 1, 1, none⟩ = false := by simp [World.frozen?, hO3]
    have o2 : wg.cell? ⟨w.heap.size + 1, 2, none⟩ = some (.bool false) := by simp [World.cell?, hO3]
    have of2 : wg.frozen? ⟨w.heap.size + 1, 2, none⟩ = false := by simp [World.frozen?, hO3]
    have hB4 : ExtB gw w (((wg.setCell ⟨w.heap.size + 1, 0, none⟩ (.int .u64 R1.N)).setCell ⟨w.heap.size + 1, 1, none⟩ (.slice yS ys yt)).setCell ⟨w.heap.size + 1, 2, none⟩ (.bool R1.fail)) := ExtB.setAll hB3 [.int .u64 R1.N, .slice yS ys yt, .bool R1.fail] (.inr (by omega)) 0
    have hp4 : (((wg.setCell ⟨w.heap.size + 1, 0, none⟩ (.int .u64 R1.N)).setCell ⟨w.heap.size + 1, 1, none⟩ (.slice yS ys yt)).setCell ⟨w.heap.size + 1, 2, none⟩ (.bool R1.fail)).heap[gP]? = _ := (setAll_other (g := w.heap.size + 1) (by omega) [.int .u64 R1.N, .slice yS ys yt, .bool R1.fail] 0 wg).trans hp3
    have hm4 : (((wg.setCell ⟨w.heap.size + 1, 0, none⟩ (.int .u64 R1.N)).setCell ⟨w.heap.size + 1, 1, none⟩ (.slice yS ys yt)).setCell ⟨w.heap.size + 1, 2, none⟩ (.bool R1.fail)).heap[gM]? = _ := (setAll_other (g := w.heap.size + 1) (by omega) [.int .u64 R1.N, .slice yS ys yt, .bool R1.fail] 0 wg).trans hm3
    have hw4 : (((wg.setCell ⟨w.heap.size + 1, 0, none⟩ (.int .u64 R1.N)).setCell ⟨w.heap.size + 1, 1, none⟩ (.slice yS ys yt)).setCell ⟨w.heap.size + 1, 2, none⟩ (.bool R1.fail)).heap[gw]? = _ := (setAll_other (g := w.heap.size + 1) nO [.int .u64 R1.N, .slice yS ys yt, .bool R1.fail] 0 wg).trans hw3
    have hO4 : (((wg.setCell ⟨w.heap.size + 1, 0, none⟩ (.int .u64 R1.N)).setCell ⟨w.heap.size + 1, 1, none⟩ (.slice yS ys yt)).setCell ⟨w.heap.size + 1, 2, none⟩ (.bool R1.fail)).heap[w.heap.size + 1]? = some (.cells #[.int .u64 R1.N, .slice yS ys yt, .bool R1.fail] 51 (0, 0)) := setAll_all (vs := [.int .u64 R1.N, .slice yS ys yt, .bool R1.fail]) hO3 rfl
    have hv4 := hv3.but hl3 (But.all (w.heap.size + 1) [.int .u64 R1.N, .slice yS ys yt, .bool R1.fail] 0 wg) hO3 rfl
    change WldV (((wg.setCell ⟨w.heap.size + 1, 0, none⟩ (.int .u64 R1.N)).setCell ⟨w.heap.size + 1, 1, none⟩ (.slice yS ys yt)).setCell ⟨w.heap.size + 1, 2, none⟩ (.bool R1.fail)) _ _ at hv4
    have hr4 := hr3.but (But.all (w.heap.size + 1) [.int .u64 R1.N, .slice yS ys yt, .bool R1.fail] 0 wg) hO3 rfl
    change ResV (((wg.setCell ⟨w.heap.size + 1, 0, none⟩ (.int .u64 R1.N)).setCell ⟨w.heap.size + 1, 1, none⟩ (.slice yS ys yt)).setCell ⟨w.heap.size + 1, 2, none⟩ (.bool R1.fail)) _ _ at hr4
    clear hO3 hw3 hp3 hm3 hfB3
    go_wp2
    generalize (((wg.setCell ⟨w.heap.size + 1, 0, none⟩ (.int .u64 R1.N)).setCell ⟨w.heap.size + 1, 1, none⟩ (.slice yS ys yt)).setCell ⟨w.heap.size + 1, 2, none⟩ (.bool R1.fail)) = wh at *
    clear o0 o1 o2 of0 of1 of2 b0 b1 b2
    have o0 : wh.cell? ⟨w.heap.size + 1, 0, none⟩ = some (.int .u64 R1.N) := by simp [World.cell?, hO4]
    have o1 : wh.cell? ⟨w.heap.size + 1, 1, none⟩ = some (.slice yS ys yt) := by simp [World.cell?, hO4]
    have o2 : wh.cell? ⟨w.heap.size + 1, 2, none⟩ = some (.bool R1.fail) := by simp [World.cell?, hO4]
    refine bodyPost_ret (v := .agg #[.int .u64 R1.N, .slice yS ys yt, .bool R1.fail]) (by simp [results, Try.results82, go_sem, o0, o1, o2]) rfl ⟨_, rfl, hr4, ⟨np, nm, hp4, hm4, _, _, _, _, _, _, _, hw4, hv4⟩, hB4⟩
end Go.Proofs.Ytennnhfaghdeoaa
