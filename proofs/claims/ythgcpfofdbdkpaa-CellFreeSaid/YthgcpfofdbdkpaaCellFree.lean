/- Proved: the law CellFree (of a new memory all records are free, each once: from the top on by their links) returns true at every input and turns none of its arguments. No condition. -/
import Derived.Test.YthgcpfofdbdkpaaShown9
import Derived.Test.YthgcpfofdbdkpaaLift
import Derived.Deep.CutRange
namespace Go.Proofs.Ythgcpfofdbdkpaa
open Go.ChangeShapes Go.WideShapes Go.ChangeAt Go.RowKit

set_option maxRecDepth 100000 in
set_option maxHeartbeats 2000000 in
theorem free_walk (tn cn : Nat) (ht : tn < 256) (hc : cn < 65536) (w : World) :
    Calls Try.prog 7 #[.int .u8 tn, .int .u16 cn] w fun e w' => e = .returned (.bool true) ∧ Ext w w' := by
  have hN : (1 : Int) + (tn : Int) % 64 = ((1 + tn % 64 : Nat) : Int) := by omega
  have hK : (cn : Int) % 301 = ((cn % 301 : Nat) : Int) := by omega
  have hN1 : 1 ≤ 1 + tn % 64 ∧ 1 + tn % 64 ≤ 64 := by omega
  have hK1 : cn % 301 ≤ 300 := by omega
  generalize 1 + tn % 64 = N at *
  generalize cn % 301 = K at *
  go_enter Try.func7, Try.ntmps7
  go_wp2_with (first
    | (go_at_call 21; refine (shown9_any _).mono ?_; rintro e w1 ⟨rfl, hx1⟩))
  rw [hK]
  have HN := Lib.hid hN
  have HK := Lib.hid hK
  clear hN hK
  refine (new_yes N K hN1.1 hN1.2 (by omega) _).mono ?_
  rintro e w2 ⟨g, rfl, hg, hrow, hx2⟩
  have hE := hx1.trans hx2
  have hw2 : Ext w2 (w2.alloc (.cells #[.int .i64 N, .int .i64 K, .slice (some ⟨g, 0, none⟩) (memL N K) (memL N K)] 42)) := (Below.refl _ w2).alloc (Nat.le_refl _) _
  replace hE := hE.trans hw2
  replace hrow := hrow.ext hw2
  have b0 : (w2.alloc (.cells #[.int .i64 N, .int .i64 K, .slice (some ⟨g, 0, none⟩) (memL N K) (memL N K)] 42)).cell? ⟨w2.heap.size, 0, none⟩ = some (.int .i64 N) := by simp [go_sem]
  have b1 : (w2.alloc (.cells #[.int .i64 N, .int .i64 K, .slice (some ⟨g, 0, none⟩) (memL N K) (memL N K)] 42)).cell? ⟨w2.heap.size, 1, none⟩ = some (.int .i64 K) := by simp [go_sem]
  have b2 : (w2.alloc (.cells #[.int .i64 N, .int .i64 K, .slice (some ⟨g, 0, none⟩) (memL N K) (memL N K)] 42)).cell? ⟨w2.heap.size, 2, none⟩ = some (.slice (some ⟨g, 0, none⟩) (memL N K) (memL N K)) := by simp [go_sem]
  have hright : rightM (N : Int) (K : Int) (memL N K) = true := by simp only [rightM, mayB_of (show 1 ≤ (N : Int) ∧ (N : Int) ≤ 64 ∧ 0 ≤ (K : Int) ∧ (K : Int) ≤ 65536 by omega), Bool.true_and, beq_iff_eq]; unfold memL; omega
  have hL8 : 8 < memL N K := by unfold memL; omega
  have hLm : memL N K ≤ 100000 := by unfold memL; omega
  clear hx1 hx2 hw2 hg
  go_upto_region 5 with (fail)
  generalize w2.alloc (.cells #[.int .i64 N, .int .i64 K, .slice (some ⟨g, 0, none⟩) (memL N K) (memL N K)] 42) = W at *
  have hhead := (hrow 1 (by omega)).1
  have hf1 : newF N K K 1 = ((min K 1 : Nat) : Int) := newF_head
  rw [hf1] at hhead
  clear hf1
  have hLi : (8 : Int) ≤ (memL N K : Int) := by omega
  go_wp2_with (first
    | (go_at_call 25; refine (cright_any _ _ _ _ _ _).mono ?_; rintro e w3 ⟨rfl, hx3⟩; replace hE := hE.trans hx3; replace hrow := hrow.ext hx3; replace b0 := hx3.cell b0; replace b1 := hx3.cell b1; replace b2 := hx3.cell b2; replace hhead := hx3.cell hhead; clear hx3))
  clear hhead b0 b1 hright
  generalize hL : memL N K = L at *
  have HL := Lib.hid hL
  clear hL
  have hX : ∀ wx, Ext w3 wx → wx.cell? ⟨w2.heap.size, 2, none⟩ = some (.slice (some ⟨g, 0, none⟩) L L) ∧ ∀ i, i < L → wx.cell? ⟨g, i, none⟩ = some (.int .u64 (newF N K K i)) := fun wx hx => ⟨hx.cell b2, fun i hi => hx.cell (hrow i hi).1⟩
  clear b2 hrow
  go_loopw [10, 11] (fun a i wr => ∃ j : Nat, j ≤ K ∧ i = .int .i64 j ∧ (j < K → a = .int .i64 ((j : Int) + 1)) ∧ (j = K → a = .int .i64 0) ∧ Ext w3 wr) (fun _ i _ => K - (intOf i).toNat)
  case atStart => exact ⟨0, Nat.zero_le _, rfl, fun h => by rw [show min K 1 = 1 by omega]; rfl, fun h => by rw [← h]; rfl, Ext.refl _⟩
  case round =>
    obtain ⟨j, hj, rfl, ha1, ha0, hxr⟩ := hrel
    rcases Nat.lt_or_ge j K with hjK | hjK
    · obtain rfl := ha1 hjK
      have hlk : linkAt N (j + 1) < L := by rw [← HL.out]; exact linkAt_lt (by omega) (by omega)
      have hfield : ∀ W, Calls Try.prog 29 #[.int .i64 N, .int .i64 ((j : Int) + 1), .int .i64 7] W fun e w' => e = .returned (.int .i64 (linkAt N (j + 1) : Nat)) ∧ W = w' := fun W => by
        have := field_link N (j + 1) (by omega) hN1.2 (by omega) W
        simpa using this
      have hval : (j + 1 < K → newF N K K (linkAt N (j + 1)) = ((j + 1 : Nat) : Int) + 1) ∧ (j + 1 = K → newF N K K (linkAt N (j + 1)) = 0) :=
        ⟨fun h => by rw [newF_link (by omega) h]; omega, fun h => by rw [← h]; exact newF_last (by omega)⟩
      have hrng := newF_u64 (t := N) (c := K) (r := K) (i := linkAt N (j + 1)) (by rw [HL.out]; exact hlk) (by omega)
      have hcell : ∀ wx, Ext wr.drew wx → wx.cell? ⟨w2.heap.size, 2, none⟩ = some (.slice (some ⟨g, 0, none⟩) L L) ∧ wx.cell? ⟨g, linkAt N (j + 1), none⟩ = some (.int .u64 (newF N K K (linkAt N (j + 1)))) := fun wx hx =>
        ⟨(hX wx (hxr.trans hx.drawn)).1, (hX wx (hxr.trans hx.drawn)).2 _ hlk⟩
      generalize linkAt N (j + 1) = q at *
      generalize newF N K K q = z at *
      obtain ⟨z0, z1⟩ := hrng
      have hwr : IntKind.i64.wrap ((j : Int) + 1) = (j : Int) + 1 := by rw [IntKind.wrap_i64]; omega
      have hwz : IntKind.i64.wrap z = z := by rw [IntKind.wrap_i64]; omega
      clear ha1 ha0 hX
      go_wp2_with fail
      refine' wp_region_sure_all ⟨((some 64, [], none) :: (some 65, [], none) :: (some 66, [1], none) :: (some 67, [0, 2], none) :: (some 68, [3], none) :: (some 69, [4], some (4, false)) :: (some 70, [4], some (4, false)) :: (some 71, [5, 6, 4, 4], some (4, false)) :: (some 72, [4], some (4, false)) :: (some 73, [8, 4], some (4, false)) :: (some 74, [9, 4], some (4, false)) :: (some 75, [7, 10, 4], some (4, false)) :: (some 76, [4, 11], none) :: []), (0 :: 0 :: 2 :: 7 :: 15 :: 31 :: 31 :: 127 :: 31 :: 287 :: 799 :: 2047 :: 4095 :: []), (true :: true :: true :: true :: true :: true :: true :: true :: true :: true :: true :: true :: true :: []), [], 0⟩ 13 115 ((0, 64) :: (1, 65) :: (2, 66) :: (3, 67) :: (4, 68) :: (5, 69) :: (6, 70) :: (7, 71) :: (8, 72) :: (9, 73) :: (10, 74) :: (11, 75) :: (12, 76) :: []) ((0, 64) :: (1, 65) :: (2, 66) :: (3, 67) :: (4, 68) :: (5, 69) :: (6, 70) :: (7, 71) :: (8, 72) :: (9, 73) :: (10, 74) :: (11, 75) :: (12, 76) :: []) (.det _ :: .det _ :: .det _ :: .det _ :: .det _ :: .det _ :: .det _ :: .det _ :: .det _ :: .det _ :: .det _ :: .det _ :: .det _ :: []) (by kernel_rfl) (by kernel_rfl) (by kernel_rfl) rfl (by kernel_rfl) (by kernel_rfl) rfl (by kernel_rfl) ?hone ?hend
      case hone =>
        intro CS frS VS hCS ha hV
        have qs6 := slot_val (t := 6) ha rfl
        simp only [List.getElem_toArray, List.getElem_cons_succ, List.getElem_cons_zero] at qs6
        have qs8 := slot_val (t := 8) ha rfl
        simp only [List.getElem_toArray, List.getElem_cons_succ, List.getElem_cons_zero] at qs8
        have qs10 := slot_val (t := 10) ha rfl
        simp only [List.getElem_toArray, List.getElem_cons_succ, List.getElem_cons_zero] at qs10
        have qs11 := slot_val (t := 11) ha rfl
        simp only [List.getElem_toArray, List.getElem_cons_succ, List.getElem_cons_zero] at qs11
        have HCS := Lib.hid hCS
        have HVS := Lib.hid hV
        clear ha hCS hV
        -- 0: slot 64 := Op.move t10
        refine sure_det (js := []) (ts := [10]) (gd := none) (place_at HVS.out (k := 0) rfl) (by rw [HCS.out]; kernel_rfl) ?_ ?_
        · intro wx hx ρ hρ hs hf
          have hρc := hρ.const
          have hρf := hρ.func
          obtain ⟨fx10, -⟩ := hf
          rw [qs10] at fx10
          clear hs
          clear HCS HVS qs6 qs8 qs10 qs11
          refine run_plain ?_
          refine op_move rfl fx10 ?_
          exact detK.mk
        -- 1: slot 65 := Op.move t11
        refine sure_det (js := []) (ts := [11]) (gd := none) (place_at HVS.out (k := 1) rfl) (by rw [HCS.out]; kernel_rfl) ?_ ?_
        · intro wx hx ρ hρ hs hf
          have hρc := hρ.const
          have hρf := hρ.func
          obtain ⟨fx11, -⟩ := hf
          rw [qs11] at fx11
          clear hs
          clear HCS HVS qs6 qs8 qs10 qs11
          refine run_plain ?_
          refine op_move rfl fx11 ?_
          exact detK.mk
        -- 2: slot 66 := Op.binOp BinOp.add 3 t65 ((i64 1)) 3
        refine sure_det (js := [(1, 65)]) (ts := []) (gd := none) (place_at HVS.out (k := 2) rfl) (by rw [HCS.out]; kernel_rfl) ?_ ?_
        · intro wx hx ρ hρ hs hf
          have hρc := hρ.const
          have hρf := hρ.func
          obtain ⟨sn1, -⟩ := hs
          rw [place_at HVS.out (k := 1) rfl] at sn1
          replace sn1 : ρ (.tmp 65) = _ := sn1
          clear hf
          clear HCS HVS qs6 qs8 qs10 qs11
          refine run_plain ?_
          unfold runs
          go_simp
          exact detK.mk
        -- 3: slot 67 := Op.binOp BinOp.neq 3 t64 t66 3
        refine sure_det (js := [(0, 64), (2, 66)]) (ts := []) (gd := none) (place_at HVS.out (k := 3) rfl) (by rw [HCS.out]; kernel_rfl) ?_ ?_
        · intro wx hx ρ hρ hs hf
          have hρc := hρ.const
          have hρf := hρ.func
          obtain ⟨sn0, sn2, -⟩ := hs
          rw [place_at HVS.out (k := 0) rfl] at sn0
          replace sn0 : ρ (.tmp 64) = _ := sn0
          rw [place_at HVS.out (k := 2) rfl] at sn2
          replace sn2 : ρ (.tmp 66) = _ := sn2
          clear hf
          clear HCS HVS qs6 qs8 qs10 qs11
          refine run_plain ?_
          unfold runs
          go_simp
          exact detK.mk
        -- 4: slot 68 := Op.move t67
        refine sure_det (js := [(3, 67)]) (ts := []) (gd := none) (place_at HVS.out (k := 4) rfl) (by rw [HCS.out]; kernel_rfl) ?_ ?_
        · intro wx hx ρ hρ hs hf
          have hρc := hρ.const
          have hρf := hρ.func
          obtain ⟨sn3, -⟩ := hs
          rw [place_at HVS.out (k := 3) rfl] at sn3
          replace sn3 : ρ (.tmp 67) = _ := sn3
          clear hf
          clear HCS HVS qs6 qs8 qs10 qs11
          refine run_plain ?_
          refine op_move rfl sn3 ?_
          exact detK.mk
        -- 5: slot 69 := Op.move t6
        refine sure_det (js := [(4, 68)]) (ts := [6]) (gd := (some (68, false))) (place_at HVS.out (k := 5) rfl) (by rw [HCS.out]; kernel_rfl) ?_ ?_
        · intro wx hx ρ hρ hs hf
          have hρc := hρ.const
          have hρf := hρ.func
          obtain ⟨sn4, -⟩ := hs
          obtain ⟨fx6, -⟩ := hf
          rw [qs6] at fx6
          rw [place_at HVS.out (k := 4) rfl] at sn4
          replace sn4 : ρ (.tmp 68) = _ := sn4
          clear HCS HVS qs6 qs8 qs10 qs11
          first
            | (refine run_passed sn4 ?_
               exact detK.mk)
            | (refine run_guarded sn4 ?_
               refine op_move rfl fx6 ?_
               exact detK.mk)
        -- 6: slot 70 := Op.move t10
        refine sure_det (js := [(4, 68)]) (ts := [10]) (gd := (some (68, false))) (place_at HVS.out (k := 6) rfl) (by rw [HCS.out]; kernel_rfl) ?_ ?_
        · intro wx hx ρ hρ hs hf
          have hρc := hρ.const
          have hρf := hρ.func
          obtain ⟨sn4, -⟩ := hs
          obtain ⟨fx10, -⟩ := hf
          rw [qs10] at fx10
          rw [place_at HVS.out (k := 4) rfl] at sn4
          replace sn4 : ρ (.tmp 68) = _ := sn4
          clear HCS HVS qs6 qs8 qs10 qs11
          first
            | (refine run_passed sn4 ?_
               exact detK.mk)
            | (refine run_guarded sn4 ?_
               refine op_move rfl fx10 ?_
               exact detK.mk)
        -- 7: slot 71 := Op.call { call ( 29), args := #[t69, t70, (i64 7)], argTypes := #[3, 3, 3] }
        refine sure_det (js := [(5, 69), (6, 70), (4, 68)]) (ts := []) (gd := (some (68, false))) (place_at HVS.out (k := 7) rfl) (by rw [HCS.out]; kernel_rfl) ?_ ?_
        · intro wx hx ρ hρ hs hf
          have hρc := hρ.const
          have hρf := hρ.func
          obtain ⟨sn5, sn6, sn4, -⟩ := hs
          rw [place_at HVS.out (k := 5) rfl] at sn5
          replace sn5 : ρ (.tmp 69) = _ := sn5
          rw [place_at HVS.out (k := 6) rfl] at sn6
          replace sn6 : ρ (.tmp 70) = _ := sn6
          rw [place_at HVS.out (k := 4) rfl] at sn4
          replace sn4 : ρ (.tmp 68) = _ := sn4
          clear hf
          clear HCS HVS qs6 qs8 qs10 qs11
          first
            | (refine run_passed sn4 ?_
               exact detK.mk)
            | (refine run_guarded sn4 ?_
               refine op_call rfl hρ Try.call29 (map_three sn5 sn6 (hρ.const _)) ?_
               refine Calls.mono (hfield _) ?_; rintro e w' ⟨rfl, rfl⟩; refine ⟨_, rfl, ?_⟩; exact detK.mk)
        -- 8: slot 72 := Op.fieldAddr 42 t8 2
        refine sure_det (js := [(4, 68)]) (ts := [8]) (gd := (some (68, false))) (place_at HVS.out (k := 8) rfl) (by rw [HCS.out]; kernel_rfl) ?_ ?_
        · intro wx hx ρ hρ hs hf
          have hρc := hρ.const
          have hρf := hρ.func
          obtain ⟨sn4, -⟩ := hs
          obtain ⟨fx8, -⟩ := hf
          rw [qs8] at fx8
          rw [place_at HVS.out (k := 4) rfl] at sn4
          replace sn4 : ρ (.tmp 68) = _ := sn4
          clear HCS HVS qs6 qs8 qs10 qs11
          first
            | (refine run_passed sn4 ?_
               exact detK.mk)
            | (refine run_guarded sn4 ?_
               unfold runs
               go_simp
               exact detK.mk)
        -- 9: slot 73 := Op.load 28 t72
        refine sure_det (js := [(8, 72), (4, 68)]) (ts := []) (gd := (some (68, false))) (place_at HVS.out (k := 9) rfl) (by rw [HCS.out]; kernel_rfl) ?_ ?_
        · intro wx hx ρ hρ hs hf
          have hρc := hρ.const
          have hρf := hρ.func
          obtain ⟨sn8, sn4, -⟩ := hs
          rw [place_at HVS.out (k := 8) rfl] at sn8
          replace sn8 : ρ (.tmp 72) = _ := sn8
          rw [place_at HVS.out (k := 4) rfl] at sn4
          replace sn4 : ρ (.tmp 68) = _ := sn4
          clear hf
          clear HCS HVS qs6 qs8 qs10 qs11
          first
            | (refine run_passed sn4 ?_
               exact detK.mk)
            | (refine run_guarded sn4 ?_
               obtain ⟨p0, p1⟩ := hcell wx hx
               unfold runs
               go_simp
               exact detK.mk)
        -- 10: slot 74 := Op.call { len, args := #[t73], argTypes := #[28] }
        refine sure_det (js := [(9, 73), (4, 68)]) (ts := []) (gd := (some (68, false))) (place_at HVS.out (k := 10) rfl) (by rw [HCS.out]; kernel_rfl) ?_ ?_
        · intro wx hx ρ hρ hs hf
          have hρc := hρ.const
          have hρf := hρ.func
          obtain ⟨sn9, sn4, -⟩ := hs
          rw [place_at HVS.out (k := 9) rfl] at sn9
          replace sn9 : ρ (.tmp 73) = _ := sn9
          rw [place_at HVS.out (k := 4) rfl] at sn4
          replace sn4 : ρ (.tmp 68) = _ := sn4
          clear hf
          clear HCS HVS qs6 qs8 qs10 qs11
          first
            | (refine run_passed sn4 ?_
               exact detK.mk)
            | (refine run_guarded sn4 ?_
               unfold runs
               go_simp
               exact detK.mk)
        -- 11: slot 75 := Op.binOp BinOp.geq 3 t71 t74 3
        refine sure_det (js := [(7, 71), (10, 74), (4, 68)]) (ts := []) (gd := (some (68, false))) (place_at HVS.out (k := 11) rfl) (by rw [HCS.out]; kernel_rfl) ?_ ?_
        · intro wx hx ρ hρ hs hf
          have hρc := hρ.const
          have hρf := hρ.func
          obtain ⟨sn7, sn10, sn4, -⟩ := hs
          rw [place_at HVS.out (k := 7) rfl] at sn7
          replace sn7 : ρ (.tmp 71) = _ := sn7
          rw [place_at HVS.out (k := 10) rfl] at sn10
          replace sn10 : ρ (.tmp 74) = _ := sn10
          rw [place_at HVS.out (k := 4) rfl] at sn4
          replace sn4 : ρ (.tmp 68) = _ := sn4
          clear hf
          clear HCS HVS qs6 qs8 qs10 qs11
          first
            | (refine run_passed sn4 ?_
               exact detK.mk)
            | (refine run_guarded sn4 ?_
               unfold runs
               go_simp
               exact detK.mk)
        -- 12: slot 76 := Op.pick t68 ((Value.bool true)) t75
        refine sure_det (js := [(4, 68), (11, 75)]) (ts := []) (gd := none) (place_at HVS.out (k := 12) rfl) (by rw [HCS.out]; kernel_rfl) ?_ ?_
        · intro wx hx ρ hρ hs hf
          have hρc := hρ.const
          have hρf := hρ.func
          obtain ⟨sn4, sn11, -⟩ := hs
          rw [place_at HVS.out (k := 4) rfl] at sn4
          replace sn4 : ρ (.tmp 68) = _ := sn4
          rw [place_at HVS.out (k := 11) rfl] at sn11
          replace sn11 : ρ (.tmp 75) = _ := sn11
          clear hf
          clear HCS HVS qs6 qs8 qs10 qs11
          refine run_plain ?_
          first | refine op_pick_t rfl sn4 (hρ.const _) ?_ | refine op_pick_f rfl sn4 sn11 ?_
          exact detK.mk
        exact trivial
      case hend =>
        intro xs wx hx hg
        have gk0 : xs 0 = _ := goods_get hg (i := 0) (j := 0) (d := 64) rfl
        have gk1 : xs 1 = _ := goods_get hg (i := 1) (j := 1) (d := 65) rfl
        have gk2 : xs 2 = _ := goods_get hg (i := 2) (j := 2) (d := 66) rfl
        have gk3 : xs 3 = _ := goods_get hg (i := 3) (j := 3) (d := 67) rfl
        have gk4 : xs 4 = _ := goods_get hg (i := 4) (j := 4) (d := 68) rfl
        have gk5 : xs 5 = _ := goods_get hg (i := 5) (j := 5) (d := 69) rfl
        have gk6 : xs 6 = _ := goods_get hg (i := 6) (j := 6) (d := 70) rfl
        have gk7 : xs 7 = _ := goods_get hg (i := 7) (j := 7) (d := 71) rfl
        have gk8 : xs 8 = _ := goods_get hg (i := 8) (j := 8) (d := 72) rfl
        have gk9 : xs 9 = _ := goods_get hg (i := 9) (j := 9) (d := 73) rfl
        have gk10 : xs 10 = _ := goods_get hg (i := 10) (j := 10) (d := 74) rfl
        have gk11 : xs 11 = _ := goods_get hg (i := 11) (j := 11) (d := 75) rfl
        have gk12 : xs 12 = _ := goods_get hg (i := 12) (j := 12) (d := 76) rfl
        clear hg
        simp only [putAll, gk0, gk1, gk2, gk3, gk4, gk5, gk6, gk7, gk8, gk9, gk10, gk11, gk12]
        clear gk0 gk1 gk2 gk3 gk4 gk5 gk6 gk7 gk8 gk9 gk10 gk11 gk12
        clear xs
        simp only [Act.put, List.setIfInBounds_toArray, List.set_cons_zero, List.set_cons_succ]
        go_wp2
        have hcell2 : ∀ wy, Ext wx.drew wy → wy.cell? ⟨w2.heap.size, 2, none⟩ = some (.slice (some ⟨g, 0, none⟩) L L) ∧ wy.cell? ⟨g, q, none⟩ = some (.int .u64 z) := fun wy hy => hcell wy (hx.trans hy.drawn)
        have hxr2 := hxr.trans hx.drawn
        clear hcell hx hxr hwr
        refine' wp_region_sure_all ⟨((some 77, [], none) :: (some 78, [0], none) :: (some 79, [], none) :: (some 80, [], none) :: (some 81, [2, 3], none) :: (some 82, [1, 4], none) :: (some 83, [5], none) :: (some 84, [6], none) :: (some 10, [7, 4, 0, 1, 2, 3, 4, 5, 6, 7], none) :: []), (0 :: 1 :: 0 :: 0 :: 12 :: 31 :: 63 :: 127 :: 255 :: []), (true :: true :: true :: true :: true :: true :: true :: true :: true :: []), [], 0⟩ 9 115 ((0, 77) :: (1, 78) :: (2, 79) :: (3, 80) :: (4, 81) :: (5, 82) :: (6, 83) :: (7, 84) :: (8, 10) :: []) ((0, 77) :: (1, 78) :: (2, 79) :: (3, 80) :: (4, 81) :: (5, 82) :: (6, 83) :: (7, 84) :: (8, 10) :: []) (.det _ :: .det _ :: .det _ :: .det _ :: .det _ :: .det _ :: .det _ :: .det _ :: .det _ :: []) (by kernel_rfl) (by kernel_rfl) (by kernel_rfl) rfl (by kernel_rfl) (by kernel_rfl) rfl (by kernel_rfl) ?hone ?hend
        case hone =>
          intro CS frS VS hCS ha hV
          have qs6 := slot_val (t := 6) ha rfl
          simp only [List.getElem_toArray, List.getElem_cons_succ, List.getElem_cons_zero] at qs6
          have qs8 := slot_val (t := 8) ha rfl
          simp only [List.getElem_toArray, List.getElem_cons_succ, List.getElem_cons_zero] at qs8
          have qs10 := slot_val (t := 10) ha rfl
          simp only [List.getElem_toArray, List.getElem_cons_succ, List.getElem_cons_zero] at qs10
          have HCS := Lib.hid hCS
          have HVS := Lib.hid hV
          clear ha hCS hV
          -- 0: slot 77 := Op.fieldAddr 42 t8 2
          refine sure_det (js := []) (ts := [8]) (gd := none) (place_at HVS.out (k := 0) rfl) (by rw [HCS.out]; kernel_rfl) ?_ ?_
          · intro wx hx ρ hρ hs hf
            have hρc := hρ.const
            have hρf := hρ.func
            obtain ⟨fx8, -⟩ := hf
            rw [qs8] at fx8
            clear hs
            clear HCS HVS qs6 qs8 qs10
            refine run_plain ?_
            unfold runs
            go_simp
            exact detK.mk
          -- 1: slot 78 := Op.load 28 t77
          refine sure_det (js := [(0, 77)]) (ts := []) (gd := none) (place_at HVS.out (k := 1) rfl) (by rw [HCS.out]; kernel_rfl) ?_ ?_
          · intro wx hx ρ hρ hs hf
            have hρc := hρ.const
            have hρf := hρ.func
            obtain ⟨sn0, -⟩ := hs
            rw [place_at HVS.out (k := 0) rfl] at sn0
            replace sn0 : ρ (.tmp 77) = _ := sn0
            clear hf
            clear HCS HVS qs6 qs8 qs10
            refine run_plain ?_
            obtain ⟨p0, p1⟩ := hcell2 wx hx
            unfold runs
            go_simp
            exact detK.mk
          -- 2: slot 79 := Op.move t6
          refine sure_det (js := []) (ts := [6]) (gd := none) (place_at HVS.out (k := 2) rfl) (by rw [HCS.out]; kernel_rfl) ?_ ?_
          · intro wx hx ρ hρ hs hf
            have hρc := hρ.const
            have hρf := hρ.func
            obtain ⟨fx6, -⟩ := hf
            rw [qs6] at fx6
            clear hs
            clear HCS HVS qs6 qs8 qs10
            refine run_plain ?_
            refine op_move rfl fx6 ?_
            exact detK.mk
          -- 3: slot 80 := Op.move t10
          refine sure_det (js := []) (ts := [10]) (gd := none) (place_at HVS.out (k := 3) rfl) (by rw [HCS.out]; kernel_rfl) ?_ ?_
          · intro wx hx ρ hρ hs hf
            have hρc := hρ.const
            have hρf := hρ.func
            obtain ⟨fx10, -⟩ := hf
            rw [qs10] at fx10
            clear hs
            clear HCS HVS qs6 qs8 qs10
            refine run_plain ?_
            refine op_move rfl fx10 ?_
            exact detK.mk
          -- 4: slot 81 := Op.call { call ( 29), args := #[t79, t80, (i64 7)], argTypes := #[3, 3, 3] }
          refine sure_det (js := [(2, 79), (3, 80)]) (ts := []) (gd := none) (place_at HVS.out (k := 4) rfl) (by rw [HCS.out]; kernel_rfl) ?_ ?_
          · intro wx hx ρ hρ hs hf
            have hρc := hρ.const
            have hρf := hρ.func
            obtain ⟨sn2, sn3, -⟩ := hs
            rw [place_at HVS.out (k := 2) rfl] at sn2
            replace sn2 : ρ (.tmp 79) = _ := sn2
            rw [place_at HVS.out (k := 3) rfl] at sn3
            replace sn3 : ρ (.tmp 80) = _ := sn3
            clear hf
            clear HCS HVS qs6 qs8 qs10
            refine run_plain ?_
            refine op_call rfl hρ Try.call29 (map_three sn2 sn3 (hρ.const _)) ?_
            refine Calls.mono (hfield _) ?_; rintro e w' ⟨rfl, rfl⟩; refine ⟨_, rfl, ?_⟩; exact detK.mk
          -- 5: slot 82 := Op.indexAddr 28 t78 t81
          refine sure_det (js := [(1, 78), (4, 81)]) (ts := []) (gd := none) (place_at HVS.out (k := 5) rfl) (by rw [HCS.out]; kernel_rfl) ?_ ?_
          · intro wx hx ρ hρ hs hf
            have hρc := hρ.const
            have hρf := hρ.func
            obtain ⟨sn1, sn4, -⟩ := hs
            rw [place_at HVS.out (k := 1) rfl] at sn1
            replace sn1 : ρ (.tmp 78) = _ := sn1
            rw [place_at HVS.out (k := 4) rfl] at sn4
            replace sn4 : ρ (.tmp 81) = _ := sn4
            clear hf
            clear HCS HVS qs6 qs8 qs10
            refine run_plain ?_
            unfold runs
            go_simp
            exact detK.mk
          -- 6: slot 83 := Op.load 26 t82
          refine sure_det (js := [(5, 82)]) (ts := []) (gd := none) (place_at HVS.out (k := 6) rfl) (by rw [HCS.out]; kernel_rfl) ?_ ?_
          · intro wx hx ρ hρ hs hf
            have hρc := hρ.const
            have hρf := hρ.func
            obtain ⟨sn5, -⟩ := hs
            rw [place_at HVS.out (k := 5) rfl] at sn5
            replace sn5 : ρ (.tmp 82) = _ := sn5
            clear hf
            clear HCS HVS qs6 qs8 qs10
            refine run_plain ?_
            obtain ⟨p0, p1⟩ := hcell2 wx hx
            unfold runs
            go_simp
            exact detK.mk
          -- 7: slot 84 := Op.convert 26 3 t83
          refine sure_det (js := [(6, 83)]) (ts := []) (gd := none) (place_at HVS.out (k := 7) rfl) (by rw [HCS.out]; kernel_rfl) ?_ ?_
          · intro wx hx ρ hρ hs hf
            have hρc := hρ.const
            have hρf := hρ.func
            obtain ⟨sn6, -⟩ := hs
            rw [place_at HVS.out (k := 6) rfl] at sn6
            replace sn6 : ρ (.tmp 83) = _ := sn6
            clear hf
            clear HCS HVS qs6 qs8 qs10
            refine run_plain ?_
            unfold runs
            go_simp
            exact detK.mk
          -- 8: slot 10 := Op.assign t84
          refine sure_det (js := [(7, 84)]) (ts := []) (gd := none) (place_at HVS.out (k := 8) rfl) (by rw [HCS.out]; kernel_rfl) ?_ ?_
          · intro wx hx ρ hρ hs hf
            have hρc := hρ.const
            have hρf := hρ.func
            obtain ⟨sn7, -⟩ := hs
            rw [place_at HVS.out (k := 7) rfl] at sn7
            replace sn7 : ρ (.tmp 84) = _ := sn7
            clear hf
            clear HCS HVS qs6 qs8 qs10
            refine run_plain ?_
            refine op_assign rfl sn7 ?_
            exact detK.mk
          exact trivial
        case hend =>
          intro xs wx hx hg
          have gk0 : xs 0 = _ := goods_get hg (i := 0) (j := 0) (d := 77) rfl
          have gk1 : xs 1 = _ := goods_get hg (i := 1) (j := 1) (d := 78) rfl
          have gk2 : xs 2 = _ := goods_get hg (i := 2) (j := 2) (d := 79) rfl
          have gk3 : xs 3 = _ := goods_get hg (i := 3) (j := 3) (d := 80) rfl
          have gk4 : xs 4 = _ := goods_get hg (i := 4) (j := 4) (d := 81) rfl
          have gk5 : xs 5 = _ := goods_get hg (i := 5) (j := 5) (d := 82) rfl
          have gk6 : xs 6 = _ := goods_get hg (i := 6) (j := 6) (d := 83) rfl
          have gk7 : xs 7 = _ := goods_get hg (i := 7) (j := 7) (d := 84) rfl
          have gk8 : xs 8 = _ := goods_get hg (i := 8) (j := 8) (d := 10) rfl
          clear hg
          simp only [putAll, gk0, gk1, gk2, gk3, gk4, gk5, gk6, gk7, gk8]
          clear gk0 gk1 gk2 gk3 gk4 gk5 gk6 gk7 gk8
          clear xs
          simp only [Act.put, List.setIfInBounds_toArray, List.set_cons_zero, List.set_cons_succ]
          go_wp2
          go_roundw
          case rel => exact ⟨j + 1, by omega, by go_num, fun h => by rw [hval.1 h], fun h => by rw [hval.2 h], hxr2.trans (Ext.drawn ‹_›)⟩
          case measure => simp [intOf]; omega
    · obtain rfl : j = K := by omega
      obtain rfl := ha0 rfl
      clear ha1 ha0 hLi
      go_wp2_with fail
      go_loopw [12, 13] (fun s i wy => ∃ m : Nat, m ≤ L ∧ i = .int .i64 m ∧ s = .int .u64 (sumF (newF N j j) m) ∧ Ext w3 wy) (fun _ i _ => L - (intOf i).toNat)
      case atStart => exact ⟨0, Nat.zero_le _, rfl, rfl, hxr⟩
      case round =>
        obtain ⟨m, hm, rfl, rfl, hxy⟩ := hrel
        obtain ⟨p0, p1⟩ := hX _ hxy
        rcases Nat.lt_or_ge m L with hmL | hmL
        · have p2 := p1 m hmL
          have hs1 := sumF_le (f := newF N j j) (m := 65537) (n := m) (fun i hi => newF_u64 (by rw [HL.out]; omega) (by omega))
          have hs2 := newF_u64 (t := N) (c := j) (r := j) (i := m) (by rw [HL.out]; exact hmL) (by omega)
          have hsum : IntKind.u64.wrap (sumF (newF N j j) m + newF N j j m) = sumF (newF N j j) (m + 1) := by
            rw [sumF, IntKind.wrap_u64]; omega
          clear hX p1 hs1 hs2
          go_wp2
          go_roundw
          case rel => exact ⟨m + 1, by omega, by go_num, rfl, hxy⟩
          case measure => simp [intOf]; omega
        · obtain rfl : m = L := by omega
          clear hX p1
          have hS : sumF (newF N j j) m = ((j * (j + 1) / 2 : Nat) : Int) := by
            rcases Nat.eq_zero_or_pos j with h0 | h1
            · subst h0; rw [← HL.out]; exact newF_sum0 N
            · rw [← HL.out]; exact newF_sum h1 (Nat.le_refl _)
          have hQ : j * (j + 1) ≤ 100000 := Nat.le_trans (Nat.mul_le_mul hK1 (show j + 1 ≤ 301 by omega)) (by omega)
          have hmul : (j : Int) * ((j : Int) + 1) = ((j * (j + 1) : Nat) : Int) := by rw [Int.natCast_mul]; rfl
          generalize j * (j + 1) = Q at *
          have hq2 : (Q : Int) / 2 = ((Q / 2 : Nat) : Int) := by omega
          have hP : Q / 2 ≤ 50000 := by omega
          generalize Q / 2 = P at *
          go_wp2
          go_ret
          exact ⟨rfl, hE.trans hxy⟩
set_option maxRecDepth 100000 in
theorem CellFree_lifted (os : Os) (started : os.Started) (H : Type) (enc : TypeId × Value → H) :
    ReturnsInHanded {} Try.checked os 7 .any (Rows.cellFreeSpec.pre6 enc Try.prog Try.f7 Rows.cellFreeRow.domain false) (Rows.cellFreeSpec.post enc Try.prog Try.f7 false true false false) := by
  refine law_row os started H enc Rows.cellFreeSpec rfl (fun ds h => by
    match ds, h with
    | [_, _], _ => rfl) (by kernel_rfl) Try.func7 rfl
    (by rw [Try.params7]; intro t ht; simp at ht; rcases ht with rfl | rfl <;> exact ⟨by kernel_rfl, of_decide_eq_true (by kernel_rfl)⟩)
    (ChangeSpec.witness6 (enc := enc) (C := Try.checked) false ⟨#[], #[.int .u8 0, .int .u16 0], []⟩ 8 (by kernel_rfl) (by kernel_rfl) (by kernel_rfl) (by kernel_rfl)) ?_
  intro W base args ds ps hval hA hlt
  rw [Try.params7] at hA hval
  obtain ⟨v0, v1, d0, d1, p0, p1, rfl, rfl, rfl, h0, h1⟩ := trodAll_two hA
  obtain ⟨t, rfl, rfl, rfl, w1⟩ := open_int Try.underlying5 (hval 0 _ v0 rfl rfl) h0
  obtain ⟨c, rfl, rfl, rfl, w2⟩ := open_int Try.underlying43 (hval 1 _ v1 rfl rfl) h1
  have b1 := wf_u8 w1
  have b2 := wf_u16 w2
  obtain ⟨tn, rfl⟩ := Int.eq_ofNat_of_zero_le b1.1
  obtain ⟨cn, rfl⟩ := Int.eq_ofNat_of_zero_le b2.1
  exact free_walk tn cn (by omega) (by omega) W
theorem CellFree_holds : Rows.CellFreeSaid :=
  OpenClaim.holds_of_wide 7 Try.f7 rfl rfl rfl rfl rfl rfl rfl ⟨rfl, rfl, rfl, rfl, rfl⟩ rfl rfl rfl rfl rfl (by kernel_rfl) Try.func7 (by kernel_rfl)
    (of_decide_eq_true (by kernel_rfl)) (by unfold Func.isWrapper; rw [if_neg (of_decide_eq_false (by kernel_rfl))]; exact ⟨rfl, rfl⟩)
    (fun os started H enc _ => CellFree_lifted os started H enc)
#print axioms CellFree_holds
end Go.Proofs.Ythgcpfofdbdkpaa
