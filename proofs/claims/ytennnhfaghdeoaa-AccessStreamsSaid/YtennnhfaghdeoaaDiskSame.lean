import Derived.Test.YtennnhfaghdeoaaDiskNewF
import Derived.Test.YtennnhfaghdeoaaDiskCat
namespace Go.Proofs.Ytennnhfaghdeoaa
open Go.RowKit

/-! Are two rows, two disks the same? -/
set_option maxRecDepth 100000 in
set_option maxHeartbeats 4000000 in
theorem all_yes (A B : Option Addr) (n c c2 : Nat) (l L : List St) (w : World) (hA : RowV w A n c l) (hB : RowV w B n c2 L) (hk : l.map St.key = L.map St.key) :
    Calls Try.prog 85 #[.slice A n c, .slice B n c2] w fun e w' => e = .returned (.bool true) ∧ Ext w w' := by
  have hcap := Nat.le_trans hA.le hA.cap
  simp only [maxLen] at hcap
  have hlen := hA.len
  have hlenB := hB.len
  go_enter Try.func85, Try.ntmps85
  go_wp2
  go_loopw [5] (fun i wr => ∃ j : Nat, j ≤ n ∧ i = .int .i64 j ∧ Ext w wr) (fun i _ => n - (intOf i).toNat)
  case atStart => exact ⟨0, Nat.zero_le _, rfl, Ext.refl _⟩
  case round =>
    obtain ⟨j, hj, rfl, hxr⟩ := hrel
    rcases Nat.lt_or_ge j n with hjn | hjn
    · have hs : l[j]? = some (l[j]'(by omega)) := List.getElem?_eq_getElem _
      have hS : L[j]? = some (L[j]'(by omega)) := List.getElem?_eq_getElem _
      generalize (l[j]'(by omega)) = s at *
      generalize (L[j]'(by omega)) = S at *
      have hkey : s.key = S.key := by
        have h1 : (l.map St.key)[j]? = some s.key := by rw [List.getElem?_map, hs]; rfl
        have h2 : (L.map St.key)[j]? = some S.key := by rw [List.getElem?_map, hS]; rfl
        rw [hk, h2] at h1
        exact (Option.some.inj h1).symm
      have hsame : sameB s.d S.d s.k S.k = true := by
        simp only [St.key, Prod.mk.injEq] at hkey
        simp [sameB, hkey.1, hkey.2]
      obtain ⟨a, rfl, a0, a1, aok⟩ := hA.at hs
      obtain ⟨b, rfl, b0, b1, bok⟩ := hB.at hS
      have hX : ∀ wx, Ext wr wx → wx.cell? (a.add (j * 2)) = some (.slice s.D s.q s.cd) ∧ wx.cell? ⟨(a.add (j * 2)).block, (a.add (j * 2)).off + 1, none⟩ = some (.int .i64 s.k) ∧ wx.cell? (b.add (j * 2)) = some (.slice S.D S.q S.cd) ∧ wx.cell? ⟨(b.add (j * 2)).block, (b.add (j * 2)).off + 1, none⟩ = some (.int .i64 S.k) ∧ Ext w wx := fun wx h =>
        ⟨(hxr.trans h).cell a0, (hxr.trans h).cell a1, (hxr.trans h).cell b0, (hxr.trans h).cell b1, hxr.trans h⟩
      have hini : (j : Int) < (n : Int) := by omega
      go_wp2_with fail
      refine' wp_region_sure ⟨((some 18, [], none) :: (some 19, [], none) :: (some 20, [0, 1], none) :: (some 21, [2], none) :: (some 22, [], none) :: (some 23, [], none) :: (some 24, [4, 5], none) :: (some 25, [6], none) :: (some 26, [3, 7], none) :: (some 6, [8, 8, 0, 1, 2, 3, 4, 5, 6, 7, 8], none) :: []), (0 :: 0 :: 3 :: 7 :: 0 :: 0 :: 48 :: 112 :: 255 :: 511 :: []), (true :: true :: true :: true :: true :: true :: true :: true :: true :: []), [], 0⟩ 9 29 ((0, 18) :: (1, 19) :: (2, 20) :: (3, 21) :: (4, 22) :: (5, 23) :: (6, 24) :: (7, 25) :: (8, 26) :: []) ((0, 18) :: (1, 19) :: (2, 20) :: (3, 21) :: (4, 22) :: (5, 23) :: (6, 24) :: (7, 25) :: (8, 26) :: []) (.det _ :: .det _ :: .det _ :: .det _ :: .det _ :: .det _ :: .det _ :: .det _ :: .det _ :: []) (by kernel_rfl) (by kernel_rfl) (by kernel_rfl) rfl (by kernel_rfl) (by kernel_rfl) rfl ?hone ?hend
      case hone =>
        intro CS frS VS hCS ha hV
        have qs0 := slot_val (t := 0) ha rfl
        simp only [List.getElem_toArray, List.getElem_cons_succ, List.getElem_cons_zero] at qs0
        have qs1 := slot_val (t := 1) ha rfl
        simp only [List.getElem_toArray, List.getElem_cons_succ, List.getElem_cons_zero] at qs1
        have qs5 := slot_val (t := 5) ha rfl
        simp only [List.getElem_toArray, List.getElem_cons_succ, List.getElem_cons_zero] at qs5
        have HCS := Lib.hid hCS
        have HVS := Lib.hid hV
        clear ha hCS hV
        -- 0: slot 18 := Op.move t0
        refine sure_det (js := []) (ts := [0]) (gd := none) (place_at HVS.out (k := 0) rfl) (by rw [HCS.out]; kernel_rfl) ?_ ?_
        · intro wx hx ρ hρ hs hf
          have hρc := hρ.const
          have hρf := hρ.func
          obtain ⟨fx0, -⟩ := hf
          rw [qs0] at fx0
          clear hs
          clear HCS HVS qs0 qs1 qs5
          refine run_plain ?_
          refine op_move rfl fx0 ?_
          exact detK.mk
        -- 1: slot 19 := Op.move t5
        refine sure_det (js := []) (ts := [5]) (gd := none) (place_at HVS.out (k := 1) rfl) (by rw [HCS.out]; kernel_rfl) ?_ ?_
        · intro wx hx ρ hρ hs hf
          have hρc := hρ.const
          have hρf := hρ.func
          obtain ⟨fx5, -⟩ := hf
          rw [qs5] at fx5
          clear hs
          clear HCS HVS qs0 qs1 qs5
          refine run_plain ?_
          refine op_move rfl fx5 ?_
          exact detK.mk
        -- 2: slot 20 := Op.indexAddr 27 t18 t19
        refine sure_det (js := [(0, 18), (1, 19)]) (ts := []) (gd := none) (place_at HVS.out (k := 2) rfl) (by rw [HCS.out]; kernel_rfl) ?_ ?_
        · intro wx hx ρ hρ hs hf
          have hρc := hρ.const
          have hρf := hρ.func
          obtain ⟨sn0, sn1, -⟩ := hs
          rw [place_at HVS.out (k := 0) rfl] at sn0
          replace sn0 : ρ (.tmp 18) = _ := sn0
          rw [place_at HVS.out (k := 1) rfl] at sn1
          replace sn1 : ρ (.tmp 19) = _ := sn1
          clear hf
          clear HCS HVS qs0 qs1 qs5
          refine run_plain ?_
          unfold runs
          go_simp
          exact detK.mk
        -- 3: slot 21 := Op.load 90 t20
        refine sure_det (js := [(2, 20)]) (ts := []) (gd := none) (place_at HVS.out (k := 3) rfl) (by rw [HCS.out]; kernel_rfl) ?_ ?_
        · intro wx hx ρ hρ hs hf
          have hρc := hρ.const
          have hρf := hρ.func
          obtain ⟨sn2, -⟩ := hs
          rw [place_at HVS.out (k := 2) rfl] at sn2
          replace sn2 : ρ (.tmp 20) = _ := sn2
          clear hf
          clear HCS HVS qs0 qs1 qs5
          refine run_plain ?_
          obtain ⟨p0, p1, p2, p3, -⟩ := hX wx hx.drawn
          unfold runs
          go_simp
          exact detK.mk
        -- 4: slot 22 := Op.move t1
        refine sure_det (js := []) (ts := [1]) (gd := none) (place_at HVS.out (k := 4) rfl) (by rw [HCS.out]; kernel_rfl) ?_ ?_
        · intro wx hx ρ hρ hs hf
          have hρc := hρ.const
          have hρf := hρ.func
          obtain ⟨fx1, -⟩ := hf
          rw [qs1] at fx1
          clear hs
          clear HCS HVS qs0 qs1 qs5
          refine run_plain ?_
          refine op_move rfl fx1 ?_
          exact detK.mk
        -- 5: slot 23 := Op.move t5
        refine sure_det (js := []) (ts := [5]) (gd := none) (place_at HVS.out (k := 5) rfl) (by rw [HCS.out]; kernel_rfl) ?_ ?_
        · intro wx hx ρ hρ hs hf
          have hρc := hρ.const
          have hρf := hρ.func
          obtain ⟨fx5, -⟩ := hf
          rw [qs5] at fx5
          clear hs
          clear HCS HVS qs0 qs1 qs5
          refine run_plain ?_
          refine op_move rfl fx5 ?_
          exact detK.mk
        -- 6: slot 24 := Op.indexAddr 27 t22 t23
        refine sure_det (js := [(4, 22), (5, 23)]) (ts := []) (gd := none) (place_at HVS.out (k := 6) rfl) (by rw [HCS.out]; kernel_rfl) ?_ ?_
        · intro wx hx ρ hρ hs hf
          have hρc := hρ.const
          have hρf := hρ.func
          obtain ⟨sn4, sn5, -⟩ := hs
          rw [place_at HVS.out (k := 4) rfl] at sn4
          replace sn4 : ρ (.tmp 22) = _ := sn4
          rw [place_at HVS.out (k := 5) rfl] at sn5
          replace sn5 : ρ (.tmp 23) = _ := sn5
          clear hf
          clear HCS HVS qs0 qs1 qs5
          refine run_plain ?_
          unfold runs
          go_simp
          exact detK.mk
        -- 7: slot 25 := Op.load 90 t24
        refine sure_det (js := [(6, 24)]) (ts := []) (gd := none) (place_at HVS.out (k := 7) rfl) (by rw [HCS.out]; kernel_rfl) ?_ ?_
        · intro wx hx ρ hρ hs hf
          have hρc := hρ.const
          have hρf := hρ.func
          obtain ⟨sn6, -⟩ := hs
          rw [place_at HVS.out (k := 6) rfl] at sn6
          replace sn6 : ρ (.tmp 24) = _ := sn6
          clear hf
          clear HCS HVS qs0 qs1 qs5
          refine run_plain ?_
          obtain ⟨p0, p1, p2, p3, -⟩ := hX wx hx.drawn
          unfold runs
          go_simp
          exact detK.mk
        -- 8: slot 26 := Op.call { call ( 43), args := #[t21, t25], argTypes := #[90, 90] }
        refine sure_det (js := [(3, 21), (7, 25)]) (ts := []) (gd := none) (place_at HVS.out (k := 8) rfl) (by rw [HCS.out]; kernel_rfl) ?_ ?_
        · intro wx hx ρ hρ hs hf
          have hρc := hρ.const
          have hρf := hρ.func
          obtain ⟨sn3, sn7, -⟩ := hs
          rw [place_at HVS.out (k := 3) rfl] at sn3
          replace sn3 : ρ (.tmp 21) = _ := sn3
          rw [place_at HVS.out (k := 7) rfl] at sn7
          replace sn7 : ρ (.tmp 25) = _ := sn7
          clear hf
          clear HCS HVS qs0 qs1 qs5
          refine run_plain ?_
          refine op_call rfl hρ Try.call43 (map_two sn3 sn7) ?_
          refine Calls.mono (same_any s.D S.D s.q s.cd S.q S.cd s.k S.k s.d S.d _ (StOK.ext aok (hX _ hx.drawn).2.2.2.2) (StOK.ext bok (hX _ hx.drawn).2.2.2.2)) ?_; rw [hsame]; rintro e w' ⟨rfl, hx5⟩; refine ⟨_, rfl, ?_⟩; exact detK.ext hx5
        exact trivial
      case hend =>
        intro xs wx hx hg
        have gk0 : xs 0 = _ := goods_get hg (i := 0) (j := 0) (d := 18) rfl
        have gk1 : xs 1 = _ := goods_get hg (i := 1) (j := 1) (d := 19) rfl
        have gk2 : xs 2 = _ := goods_get hg (i := 2) (j := 2) (d := 20) rfl
        have gk3 : xs 3 = _ := goods_get hg (i := 3) (j := 3) (d := 21) rfl
        have gk4 : xs 4 = _ := goods_get hg (i := 4) (j := 4) (d := 22) rfl
        have gk5 : xs 5 = _ := goods_get hg (i := 5) (j := 5) (d := 23) rfl
        have gk6 : xs 6 = _ := goods_get hg (i := 6) (j := 6) (d := 24) rfl
        have gk7 : xs 7 = _ := goods_get hg (i := 7) (j := 7) (d := 25) rfl
        have gk8 : xs 8 = _ := goods_get hg (i := 8) (j := 8) (d := 26) rfl
        clear hg
        simp only [putAll, gk0, gk1, gk2, gk3, gk4, gk5, gk6, gk7, gk8]
        clear gk0 gk1 gk2 gk3 gk4 gk5 gk6 gk7 gk8
        clear xs
        simp only [Act.put, List.setIfInBounds_toArray, List.set_cons_zero, List.set_cons_succ, List.drop_succ_cons, List.drop_zero]
        go_wp2
        go_roundw
        case rel => exact ⟨j + 1, by omega, by go_num, hxr.trans hx.drawn⟩
        case measure => simp [intOf]; omega
    · have hini : ¬ (j : Int) < (n : Int) := by omega
      go_wp2
      go_ret
      exact ⟨rfl, hxr⟩
set_option maxRecDepth 100000 in
set_option maxHeartbeats 1000000 in
theorem dsame_yes (R : Int) (A0 A1 B0 B1 : Option Addr) (n0 c0 n1 c1 b0 b1 : Nat) (l0 l1 L0 L1 : List St) (w : World) (h0 : RowV w A0 n0 c0 l0) (h1 : RowV w A1 n1 c1 l1) (g0 : RowV w B0 n0 b0 L0) (g1 : RowV w B1 n1 b1 L1) (k0 : l0.map St.key = L0.map St.key) (k1 : l1.map St.key = L1.map St.key) :
    Calls Try.prog 38 #[.agg #[.int .u64 R, .slice A0 n0 c0, .slice A1 n1 c1], .agg #[.int .u64 R, .slice B0 n0 b0, .slice B1 n1 b1]] w fun e w' => e = .returned (.bool true) ∧ Ext w w' := by
  go_enter Try.func38, Try.ntmps38
  go_upto_region 1 with (fail)
  obtain ⟨hW, hE, hO⟩ := two_boxes7 w (.cells #[.int .u64 R, .slice A0 n0 c0, .slice A1 n1 c1] 30) (.cells #[.int .u64 R, .slice B0 n0 b0, .slice B1 n1 b1] 30)
  generalize (w.alloc (.cells #[.int .u64 R, .slice A0 n0 c0, .slice A1 n1 c1] 30)).alloc (.cells #[.int .u64 R, .slice B0 n0 b0, .slice B1 n1 b1] 30) = W at *
  have e0 : W.cell? ⟨w.heap.size, 0, none⟩ = some (.int .u64 R) := by simp [World.cell?, hE]
  have e1 : W.cell? ⟨w.heap.size, 1, none⟩ = some (.slice A0 n0 c0) := by simp [World.cell?, hE]
  have e2 : W.cell? ⟨w.heap.size, 2, none⟩ = some (.slice A1 n1 c1) := by simp [World.cell?, hE]
  have d0 : W.cell? ⟨w.heap.size + 1, 0, none⟩ = some (.int .u64 R) := by simp [World.cell?, hO]
  have d1 : W.cell? ⟨w.heap.size + 1, 1, none⟩ = some (.slice B0 n0 b0) := by simp [World.cell?, hO]
  have d2 : W.cell? ⟨w.heap.size + 1, 2, none⟩ = some (.slice B1 n1 b1) := by simp [World.cell?, hO]
  go_wp2_with fail
  refine (all_yes A0 B0 n0 c0 b0 l0 L0 _ (h0.ext hW) (g0.ext hW) k0).mono ?_
  rintro e w1 ⟨rfl, hx1⟩
  replace hE := heap_ext hE hx1
  replace hO := heap_ext hO hx1
  replace hW := hW.trans hx1
  clear e0 e1 e2 d0 d1 d2
  have e0 : w1.cell? ⟨w.heap.size, 0, none⟩ = some (.int .u64 R) := by simp [World.cell?, hE]
  have e1 : w1.cell? ⟨w.heap.size, 1, none⟩ = some (.slice A0 n0 c0) := by simp [World.cell?, hE]
  have e2 : w1.cell? ⟨w.heap.size, 2, none⟩ = some (.slice A1 n1 c1) := by simp [World.cell?, hE]
  have d0 : w1.cell? ⟨w.heap.size + 1, 0, none⟩ = some (.int .u64 R) := by simp [World.cell?, hO]
  have d1 : w1.cell? ⟨w.heap.size + 1, 1, none⟩ = some (.slice B0 n0 b0) := by simp [World.cell?, hO]
  have d2 : w1.cell? ⟨w.heap.size + 1, 2, none⟩ = some (.slice B1 n1 b1) := by simp [World.cell?, hO]
  go_wp2_with fail
  refine (all_yes A1 B1 n1 c1 b1 l1 L1 _ (h1.ext hW) (g1.ext hW) k1).mono ?_
  rintro e w2 ⟨rfl, hx2⟩
  replace e0 := hx2.cell e0
  replace d0 := hx2.cell d0
  go_wp2
  go_ret
  exact ⟨rfl, hW.trans hx2⟩
/-- a disk's rows, told by keys -/
structure DkV (w : World) (v : Value) (R : Int) (n0 n1 : Nat) (l0 l1 : List St) : Prop where
  form : ∃ (A0 A1 : Option Addr) (c0 c1 : Nat), v = .agg #[.int .u64 R, .slice A0 n0 c0, .slice A1 n1 c1] ∧ RowV w A0 n0 c0 l0 ∧ RowV w A1 n1 c1 l1
theorem DkV.ext {w w' : World} {v : Value} {R : Int} {n0 n1 : Nat} {l0 l1 : List St} (h : DkV w v R n0 n1 l0 l1) (hx : Ext w w') : DkV w' v R n0 n1 l0 l1 := let ⟨A0, A1, c0, c1, e, h0, h1⟩ := h.form; ⟨A0, A1, c0, c1, e, h0.ext hx, h1.ext hx⟩
end Go.Proofs.Ytennnhfaghdeoaa
