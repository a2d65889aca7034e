/- Proved: the law PoolAlone (stepping alone, one operation behind the other, records come as from a pile) returns true at every input and turns none of its arguments. No condition. -/
import Derived.Test.YtkdjmfaodojmfaaPoolAlonePartH
import Derived.Test.YtkdjmfaodojmfaaPoolAlonePartI
import Derived.Test.YtkdjmfaodojmfaaPoolAlonePartG
namespace Go.Proofs.Ytkdjmfaodojmfaa
open Go.ChangeShapes Go.WideShapes Go.ChangeAt Go.RowKit

theorem up_row {N j : Nat} (h : j < N) : (upFrom (N - (j + 1) + 1) (j + 1)).reverse = (upFrom (N - j + 1) j).reverse ++ [(N : Int) - (j : Int)] := by
  rw [show N - (j + 1) + 1 = N - j by omega]
  simp only [upFrom, List.reverse_cons]
  rw [show ((N - j : Nat) : Int) = (N : Int) - (j : Int) by omega]
theorem IntOwn.self {w : World} {b n : Nat} {v : Value} {l : List Int} (h : IntOwn w b v n l) : IntOwn w b v l.length l := by
  obtain rfl := h.1; exact h
set_option maxRecDepth 100000 in
set_option maxHeartbeats 20000000 in
theorem palone_walk (cn : Nat) (hc : cn < 256) (M : Option Addr) (m mc : Nat) (ms : List UInt8) (w : World) (hM : BytesV w M m mc ms) :
    Calls Try.prog 4 #[.int .u8 cn, .slice M m mc] w fun e w' => e = .returned (.bool true) ∧ Ext w w' := by
  have hmk := Nat.le_trans hM.le hM.cap
  simp only [maxLen] at hmk
  obtain ⟨i0, hi0, hz0, hz1, hz2⟩ := info_parts info_i64
  have hr1 : ∀ (W : World) (a : Int), (Instr.buildSlice 35 1 #[(0, .int .i64 a)]).run Try.prog W = .ok (.slice (some ⟨W.heap.size, 0, none⟩) 1 1) (W.alloc (.cells #[.int .i64 a] 3)) := fun _ _ => by kernel_rfl
  have hr0 : ∀ (W : World), (Instr.buildSlice 35 0 #[]).run Try.prog W = .ok (.slice (some ⟨W.heap.size, 0, none⟩) 0 0) (W.alloc (.cells #[] 3)) := fun _ => by kernel_rfl
  have hb1 : ∀ (W : World), (Instr.build 24 #[(0, .int .i64 1)]).run Try.prog W = .ok (.agg #[.int .i64 1, .int .i64 0, .int .i64 0, .int .u64 0]) W := fun _ => by kernel_rfl
  have hb2 : ∀ (W : World) (x : Int), (Instr.build 24 #[(0, .int .i64 2), (1, .int .i64 x)]).run Try.prog W = .ok (.agg #[.int .i64 2, .int .i64 x, .int .i64 0, .int .u64 0]) W := fun _ _ => by kernel_rfl
  have q1 : IntKind.i64.wrap (cn : Int) = (cn : Int) := by rw [IntKind.wrap_i64]; omega
  have q2 : Int.tmod (cn : Int) 13 = (cn : Int) % 13 := by rw [Int.tmod_eq_emod_of_nonneg (by omega)]
  have q3 : IntKind.i64.wrap ((cn : Int) % 13) = (cn : Int) % 13 := by rw [IntKind.wrap_i64]; omega
  have q4 : (cn : Int) % 13 = ((cn % 13 : Nat) : Int) := by omega
  have hN : cn % 13 ≤ 12 := by omega
  generalize cn % 13 = N at *
  have hnew := fun W => ranew_yes 1 N (by omega) (by omega) (by omega) W
  have hp0 := new_pool (t := 1) (c := N) (by omega) (by omega) (by omega)
  have hk0 := new_wok (t := 1) (c := N) (by omega) (by omega) (by omega)
  have hh0 := HK.new N
  generalize newW 1 N = X0 at *
  go_enter Try.func4, Try.ntmps4
  go_wp2_with fail
  refine (shown12_any _).mono ?_
  rintro e w1 ⟨rfl, hW⟩
  rcases (Decidable.em (m ≤ 40)).symm with h6 | h6
  · have h6' : (40 : Int) < (m : Int) := by omega
    go_wp2
    go_ret
    exact ⟨rfl, hW⟩
  have h6' : ¬ (40 : Int) < (m : Int) := by omega
  go_wp2_with fail
  refine (hnew _).mono ?_
  rintro e w_a ⟨v_, rfl, hVa, hx_⟩
  obtain ⟨aA, aq, ac, aB, ab, aC, ad, rfl⟩ := hVa.form6
  replace hW := hW.trans hx_
  clear hx_
  go_upto_region 6 with (fail)
  have hx_ : Ext w_a (w_a.alloc (.cells #[.int .i64 X0.T, .int .i64 X0.C, .slice aA aq ac, .int .u64 X0.R, .slice aB X0.n ab, .slice aC X0.n ad] 51)) := (Below.refl _ w_a).alloc (Nat.le_refl _) _
  have hba := heap_alloc_new w_a (.cells #[.int .i64 X0.T, .int .i64 X0.C, .slice aA aq ac, .int .u64 X0.R, .slice aB X0.n ab, .slice aC X0.n ad] 51)
  generalize w_a.alloc (.cells #[.int .i64 X0.T, .int .i64 X0.C, .slice aA aq ac, .int .u64 X0.R, .slice aB X0.n ab, .slice aC X0.n ad] 51) = W3 at *
  have hls := hW.size
  generalize w_a.heap.size = ga at *
  replace hVa := hVa.ext hx_
  replace hW := hW.trans hx_
  clear hx_
  have hbx : BoxW W3 ga X0 := ⟨_, hba, hVa⟩
  obtain ⟨gs, hgs⟩ : ∃ gs, gs = W3.heap.size := ⟨_, rfl⟩
  have hlg : ga < gs := by rw [hgs]; exact (Array.getElem?_eq_some_iff.1 hba).1
  have hgr : gs ≤ W3.heap.size := Nat.le_of_eq hgs
  have hls2 : w.heap.size ≤ gs := by omega
  clear hba hVa hgs hnew q1 q2 q3
  go_wp2
  go_loopw [8, 10] (fun pv rv wr => ∃ j : Nat, rv = .int .i64 ((N : Int) - (j : Int)) ∧ j ≤ N ∧ IntOwn wr gs pv j (upFrom (N - j + 1) j).reverse ∧ BoxW wr ga X0 ∧ Ext w wr ∧ gs ≤ wr.heap.size) (fun _ rv _ => (intOf rv).toNat)
  case atStart => exact ⟨0, by rw [show (N : Int) - ((0 : Nat) : Int) = (N : Int) by omega], Nat.zero_le _, IntOwn.nil _ _, hbx, hW, hgr⟩
  case round =>
    clear hW hbx hgr
    obtain ⟨j, rfl, hj, hown, hbx, hWr, hgr⟩ := hrel
    rcases Nat.lt_or_ge j N with hjN | hjN
    · have hrow := up_row hjN
      have hmes : ((N : Int) - ((j + 1 : Nat) : Int)).toNat < ((N : Int) - (j : Int)).toNat := by omega
      have hnx : IntKind.i64.wrap ((N : Int) - (j : Int) - 1) = (N : Int) - ((j + 1 : Nat) : Int) := by rw [IntKind.wrap_i64]; omega
      have hge : (1 : Int) ≤ (N : Int) - (j : Int) := by omega
      generalize (N : Int) - (j : Int) = rj at *
      obtain ⟨bA, bq, bc, bB, bb, bC, bd, hb0, hbV⟩ := hbx.form
      have hl0 := hk0.2.2
      have hWn : Ext wr (wr.alloc (.cells #[.int .i64 rj] 3)) := (Below.refl _ wr).alloc (Nat.le_refl _) _
      have hcn : ∀ (i : Nat) (u : Value), (intCells [rj])[i]? = some u → (wr.alloc (.cells #[.int .i64 rj] 3)).cell? ((⟨wr.heap.size, 0, none⟩ : Addr).add i) = some u := heap_cells (heap_alloc_new wr _)
      have hown2 := hown.ext hWn
      go_wp2_with (at_builtin; go_loud (refine wpList_append_int rfl (.tmp 38) (.tmp 40) _ rfl gs i0 Try.underlying35 hi0 hz0 hz1 hz2 _ j _ rfl hown2 ⟨wr.heap.size, 0, none⟩ 1 1 [rj] rfl (by intro _; omega) rfl hcn (by omega) (Nat.le_trans hgr hWn.size) ?_); intro v2 w8 hown5 hg5 hob5)
      have hW5 := grownI_ext hown2 hg5 (hWr.trans hWn) hls2
      have hb5 := grownI_heap hown2 hg5 (hown2.low hlg) (heap_ext hb0 hWn)
      have hV5 := WldV.grownI hown2 hg5 (hbV.ext hWn) hl0
      have hgr5 : gs ≤ w8.heap.size := Nat.le_trans hgr (Nat.le_trans hWn.size hg5.size)
      rw [← hrow] at hown5
      clear hown2 hg5 hob5 hcn hWn hown hb0 hbV hgr hrow
      go_roundw
      case rel => exact ⟨j + 1, by rw [show (N : Int) - ((j : Int) + 1) = (N : Int) - ((j + 1 : Nat) : Int) by omega], by omega, hown5, ⟨_, hb5, hV5⟩, hW5, hgr5⟩
      case measure => simp only [intOf]; omega
    · obtain rfl : N = j := by omega
      have hge : ¬ (1 : Int) ≤ (N : Int) - (N : Int) := by omega
      rw [show N - N + 1 = 1 by omega] at hown
      have hown1 := hown.self
      rw [List.length_reverse] at hown1
      clear hown
      generalize upFrom 1 N = pile0 at *
      go_wp2
      go_loopw [8, 9, 11] (fun pv hv iv wr => ∃ (j : Nat) (Xj : WldK) (pile held : List Int), iv = .int .i64 (j : Int) ∧ j ≤ m ∧ BoxW wr ga Xj ∧ PoolK Xj 1 N pile ∧ WOk Xj ∧ HK N pile held ∧ IntOwn wr gs pv pile.length pile.reverse ∧ IntOwn wr gs hv held.length held ∧ (∀ g, hv.ownBlock = some g → pv.ownBlock ≠ some g) ∧ Ext w wr ∧ gs ≤ wr.heap.size) (fun _ _ iv _ => m - (intOf iv).toNat)
      case atStart => exact ⟨0, X0, pile0, [], rfl, Nat.zero_le _, hbx, hp0, hk0, hh0, hown1, IntOwn.nil _ _, by intro g h; simp [Value.ownBlock] at h, hWr, hgr⟩
      case round => 
        clear hWr hbx hgr hown1 hp0 hk0 hh0
        obtain ⟨j, Xj, pile, held, rfl, hj, hbx, hpj, hkj, hhk, hown, hoH, hne, hWr, hgr⟩ := hrel
        have hhN := hhk.len
        have hpN := hpj.len
        obtain ⟨bA, bq, bc, bB, bb, bC, bd, hb0, hbV⟩ := hbx.form
        clear hbx
        obtain ⟨pB, pc, rfl, -, -, -, hlp1, hlp2⟩ := hown.form
        obtain ⟨hvB, hvc, rfl, -, -, -, hle1, hle2⟩ := hoH.form
        simp only [maxLen] at hle2 hlp2
        rcases (Nat.lt_or_ge j m).symm with hjm | hjm
        · obtain rfl : j = m := by omega
          have hjI : ¬ (j : Int) < (j : Int) := by omega
          have hword := WldV.words hbV
          have hcell := fun W h => rfree_any Xj 1 N pile hpj bA bq bc W h
          clear hoH hne hkj hhk
          have e0 : wr.cell? ⟨ga, 0, none⟩ = some (.int .i64 Xj.T) := by simp [World.cell?, hb0]
          have e1 : wr.cell? ⟨ga, 1, none⟩ = some (.int .i64 Xj.C) := by simp [World.cell?, hb0]
          have e2 : wr.cell? ⟨ga, 2, none⟩ = some (.slice bA bq bc) := by simp [World.cell?, hb0]
          have e3 : wr.cell? ⟨ga, 3, none⟩ = some (.int .u64 Xj.R) := by simp [World.cell?, hb0]
          have e4 : wr.cell? ⟨ga, 4, none⟩ = some (.slice bB Xj.n bb) := by simp [World.cell?, hb0]
          have e5 : wr.cell? ⟨ga, 5, none⟩ = some (.slice bC Xj.n bd) := by simp [World.cell?, hb0]
          go_wp2_with fail
          refine (hcell _ hword).mono ?_
          clear hcell hword
          rintro e w3 ⟨fv, rfl, hf1, hx_⟩
          obtain ⟨fB, fc, rfl, -⟩ := hf1.form
          clear e0 e1 e2 e3 e4 e5
          replace hb0 := heap_ext hb0 hx_
          replace hbV := hbV.ext hx_
          replace hown := hown.ext hx_
          replace hWr := hWr.trans hx_
          clear hx_ hb0 hbV hgr hpj
          go_wp2
          go_loopw [22] (fun iv wy => ∃ i : Nat, iv = .int .i64 (i : Int) ∧ i ≤ pile.length ∧ Ext w3 wy) (fun iv _ => pile.length - (intOf iv).toNat)
          case atStart => exact ⟨0, rfl, Nat.zero_le _, Ext.refl _⟩
          case round =>
            obtain ⟨i, rfl, hi, hxy⟩ := hrel
            rcases Nat.lt_or_ge i pile.length with hiL | hiL
            · have hiI : (i : Int) < (pile.length : Int) := by omega
              obtain ⟨x, hx⟩ : ∃ x, pile[i]? = some x := ⟨_, List.getElem?_eq_getElem hiL⟩
              obtain ⟨n1, hn1⟩ : ∃ n1, n1 = pile.length - 1 := ⟨_, rfl⟩
              obtain ⟨i2, hi2⟩ : ∃ i2, i2 = n1 - i := ⟨_, rfl⟩
              have hx2 : pile.reverse[i2]? = some x := by
                rw [List.getElem?_reverse (by omega), ← hx]
                congr 1; omega
              obtain ⟨g1, c1, e1, -, -, -, hc1⟩ := hf1.at hx
              obtain ⟨g2, c2, e2, -, -, -, hc2⟩ := hown.at hx2
              cases e1
              cases e2
              have hq1 : IntKind.i64.wrap ((pile.length : Int) - 1) = (n1 : Int) := by rw [IntKind.wrap_i64]; omega
              have hq2 : IntKind.i64.wrap ((n1 : Int) - (i : Int)) = (i2 : Int) := by rw [IntKind.wrap_i64]; omega
              have hq3 : (i2 : Int) < (pile.length : Int) := by omega
              have hX : ∀ wx, Ext wr wx → wx.cell? ⟨g1, i, none⟩ = some (.int .i64 x) ∧ wx.cell? ⟨g2, i2, none⟩ = some (.int .i64 x) := fun wx hx => ⟨(hxy.trans hx).cell hc1, (hxy.trans hx).cell hc2⟩
              clear hc1 hc2 hf1 hown hn1 hi2 hx hx2
              go_wp2
              refine' wp_region_sure_all ⟨((some 145, [], none) :: (some 146, [], none) :: (some 147, [0, 1], none) :: (some 148, [2], none) :: (some 149, [], none) :: (some 150, [], none) :: (some 151, [5], none) :: (some 152, [6], none) :: (some 153, [], none) :: (some 154, [7, 8], none) :: (some 155, [4, 9], none) :: (some 156, [10], none) :: (some 157, [3, 11], none) :: []), (0 :: 0 :: 3 :: 7 :: 0 :: 0 :: 32 :: 96 :: 0 :: 480 :: 1008 :: 2032 :: 4095 :: []), (true :: true :: true :: true :: true :: true :: true :: true :: true :: true :: true :: true :: true :: []), [], 0⟩ 13 159 ((0, 145) :: (1, 146) :: (2, 147) :: (3, 148) :: (4, 149) :: (5, 150) :: (6, 151) :: (7, 152) :: (8, 153) :: (9, 154) :: (10, 155) :: (11, 156) :: (12, 157) :: []) ((0, 145) :: (1, 146) :: (2, 147) :: (3, 148) :: (4, 149) :: (5, 150) :: (6, 151) :: (7, 152) :: (8, 153) :: (9, 154) :: (10, 155) :: (11, 156) :: (12, 157) :: []) (.det _ :: .det _ :: .det _ :: .det _ :: .det _ :: .det _ :: .det _ :: .det _ :: .det _ :: .det _ :: .det _ :: .det _ :: .det _ :: []) (by kernel_rfl) (by kernel_rfl) (by kernel_rfl) rfl (by kernel_rfl) (by kernel_rfl) rfl (by kernel_rfl) ?hone ?hend
              case hone =>
                intro CS frS VS hCS ha hV
                have qs8 := slot_val (t := 8) ha rfl
                simp only [List.getElem_toArray, List.getElem_cons_succ, List.getElem_cons_zero] at qs8
                have qs21 := slot_val (t := 21) ha rfl
                simp only [List.getElem_toArray, List.getElem_cons_succ, List.getElem_cons_zero] at qs21
                have qs22 := slot_val (t := 22) ha rfl
                simp only [List.getElem_toArray, List.getElem_cons_succ, List.getElem_cons_zero] at qs22
                have HCS := Lib.hid hCS
                have HVS := Lib.hid hV
                clear ha hCS hV
                -- 0: slot 145 := Op.move t21
                refine sure_det (js := []) (ts := [21]) (gd := none) (place_at HVS.out (k := 0) rfl) (by rw [HCS.out]; kernel_rfl) ?_ ?_
                · intro wx hx ρ hρ hs hf
                  have hρc := hρ.const
                  have hρf := hρ.func
                  obtain ⟨fx21, -⟩ := hf
                  rw [qs21] at fx21
                  clear hs
                  clear HCS HVS qs8 qs21 qs22
                  refine run_plain ?_
                  refine op_move rfl fx21 ?_
                  exact detK.mk
                -- 1: slot 146 := Op.move t22
                refine sure_det (js := []) (ts := [22]) (gd := none) (place_at HVS.out (k := 1) rfl) (by rw [HCS.out]; kernel_rfl) ?_ ?_
                · intro wx hx ρ hρ hs hf
                  have hρc := hρ.const
                  have hρf := hρ.func
                  obtain ⟨fx22, -⟩ := hf
                  rw [qs22] at fx22
                  clear hs
                  clear HCS HVS qs8 qs21 qs22
                  refine run_plain ?_
                  refine op_move rfl fx22 ?_
                  exact detK.mk
                -- 2: slot 147 := Op.indexAddr 35 t145 t146
                refine sure_det (js := [(0, 145), (1, 146)]) (ts := []) (gd := none) (place_at HVS.out (k := 2) rfl) (by rw [HCS.out]; kernel_rfl) ?_ ?_
                · intro wx hx ρ hρ hs hf
                  have hρc := hρ.const
                  have hρf := hρ.func
                  obtain ⟨sn0, sn1, -⟩ := hs
                  rw [place_at HVS.out (k := 0) rfl] at sn0
                  replace sn0 : ρ (.tmp 145) = _ := sn0
                  rw [place_at HVS.out (k := 1) rfl] at sn1
                  replace sn1 : ρ (.tmp 146) = _ := sn1
                  clear hf
                  clear HCS HVS qs8 qs21 qs22
                  refine run_plain ?_
                  unfold runs
                  go_simp
                  exact detK.mk
                -- 3: slot 148 := Op.load 3 t147
                refine sure_det (js := [(2, 147)]) (ts := []) (gd := none) (place_at HVS.out (k := 3) rfl) (by rw [HCS.out]; kernel_rfl) ?_ ?_
                · intro wx hx ρ hρ hs hf
                  have hρc := hρ.const
                  have hρf := hρ.func
                  obtain ⟨sn2, -⟩ := hs
                  rw [place_at HVS.out (k := 2) rfl] at sn2
                  replace sn2 : ρ (.tmp 147) = _ := sn2
                  clear hf
                  clear HCS HVS qs8 qs21 qs22
                  refine run_plain ?_
                  obtain ⟨p0, p1⟩ := hX wx hx.drawn
                  unfold runs
                  go_simp
                  exact detK.mk
                -- 4: slot 149 := Op.move t8
                refine sure_det (js := []) (ts := [8]) (gd := none) (place_at HVS.out (k := 4) rfl) (by rw [HCS.out]; kernel_rfl) ?_ ?_
                · intro wx hx ρ hρ hs hf
                  have hρc := hρ.const
                  have hρf := hρ.func
                  obtain ⟨fx8, -⟩ := hf
                  rw [qs8] at fx8
                  clear hs
                  clear HCS HVS qs8 qs21 qs22
                  refine run_plain ?_
                  refine op_move rfl fx8 ?_
                  exact detK.mk
                -- 5: slot 150 := Op.move t8
                refine sure_det (js := []) (ts := [8]) (gd := none) (place_at HVS.out (k := 5) rfl) (by rw [HCS.out]; kernel_rfl) ?_ ?_
                · intro wx hx ρ hρ hs hf
                  have hρc := hρ.const
                  have hρf := hρ.func
                  obtain ⟨fx8, -⟩ := hf
                  rw [qs8] at fx8
                  clear hs
                  clear HCS HVS qs8 qs21 qs22
                  refine run_plain ?_
                  refine op_move rfl fx8 ?_
                  exact detK.mk
                -- 6: slot 151 := Op.call { len, args := #[t150], argTypes := #[35] }
                refine sure_det (js := [(5, 150)]) (ts := []) (gd := none) (place_at HVS.out (k := 6) rfl) (by rw [HCS.out]; kernel_rfl) ?_ ?_
                · intro wx hx ρ hρ hs hf
                  have hρc := hρ.const
                  have hρf := hρ.func
                  obtain ⟨sn5, -⟩ := hs
                  rw [place_at HVS.out (k := 5) rfl] at sn5
                  replace sn5 : ρ (.tmp 150) = _ := sn5
                  clear hf
                  clear HCS HVS qs8 qs21 qs22
                  refine run_plain ?_
                  unfold runs
                  go_simp
                  exact detK.mk
                -- 7: slot 152 := Op.binOp BinOp.sub 3 t151 ((i64 1)) 3
                refine sure_det (js := [(6, 151)]) (ts := []) (gd := none) (place_at HVS.out (k := 7) rfl) (by rw [HCS.out]; kernel_rfl) ?_ ?_
                · intro wx hx ρ hρ hs hf
                  have hρc := hρ.const
                  have hρf := hρ.func
                  obtain ⟨sn6, -⟩ := hs
                  rw [place_at HVS.out (k := 6) rfl] at sn6
                  replace sn6 : ρ (.tmp 151) = _ := sn6
                  clear hf
                  clear HCS HVS qs8 qs21 qs22
                  refine run_plain ?_
                  unfold runs
                  go_simp
                  exact detK.mk
                -- 8: slot 153 := Op.move t22
                refine sure_det (js := []) (ts := [22]) (gd := none) (place_at HVS.out (k := 8) rfl) (by rw [HCS.out]; kernel_rfl) ?_ ?_
                · intro wx hx ρ hρ hs hf
                  have hρc := hρ.const
                  have hρf := hρ.func
                  obtain ⟨fx22, -⟩ := hf
                  rw [qs22] at fx22
                  clear hs
                  clear HCS HVS qs8 qs21 qs22
                  refine run_plain ?_
                  refine op_move rfl fx22 ?_
                  exact detK.mk
                -- 9: slot 154 := Op.binOp BinOp.sub 3 t152 t153 3
                refine sure_det (js := [(7, 152), (8, 153)]) (ts := []) (gd := none) (place_at HVS.out (k := 9) rfl) (by rw [HCS.out]; kernel_rfl) ?_ ?_
                · intro wx hx ρ hρ hs hf
                  have hρc := hρ.const
                  have hρf := hρ.func
                  obtain ⟨sn7, sn8, -⟩ := hs
                  rw [place_at HVS.out (k := 7) rfl] at sn7
                  replace sn7 : ρ (.tmp 152) = _ := sn7
                  rw [place_at HVS.out (k := 8) rfl] at sn8
                  replace sn8 : ρ (.tmp 153) = _ := sn8
                  clear hf
                  clear HCS HVS qs8 qs21 qs22
                  refine run_plain ?_
                  unfold runs
                  go_simp
                  exact detK.mk
                -- 10: slot 155 := Op.indexAddr 35 t149 t154
                refine sure_det (js := [(4, 149), (9, 154)]) (ts := []) (gd := none) (place_at HVS.out (k := 10) rfl) (by rw [HCS.out]; kernel_rfl) ?_ ?_
                · intro wx hx ρ hρ hs hf
                  have hρc := hρ.const
                  have hρf := hρ.func
                  obtain ⟨sn4, sn9, -⟩ := hs
                  rw [place_at HVS.out (k := 4) rfl] at sn4
                  replace sn4 : ρ (.tmp 149) = _ := sn4
                  rw [place_at HVS.out (k := 9) rfl] at sn9
                  replace sn9 : ρ (.tmp 154) = _ := sn9
                  clear hf
                  clear HCS HVS qs8 qs21 qs22
                  refine run_plain ?_
                  unfold runs
                  go_simp
                  exact detK.mk
                -- 11: slot 156 := Op.load 3 t155
                refine sure_det (js := [(10, 155)]) (ts := []) (gd := none) (place_at HVS.out (k := 11) rfl) (by rw [HCS.out]; kernel_rfl) ?_ ?_
                · intro wx hx ρ hρ hs hf
                  have hρc := hρ.const
                  have hρf := hρ.func
                  obtain ⟨sn10, -⟩ := hs
                  rw [place_at HVS.out (k := 10) rfl] at sn10
                  replace sn10 : ρ (.tmp 155) = _ := sn10
                  clear hf
                  clear HCS HVS qs8 qs21 qs22
                  refine run_plain ?_
                  obtain ⟨p0, p1⟩ := hX wx hx.drawn
                  unfold runs
                  go_simp
                  exact detK.mk
                -- 12: slot 157 := Op.binOp BinOp.neq 3 t148 t156 3
                refine sure_det (js := [(3, 148), (11, 156)]) (ts := []) (gd := none) (place_at HVS.out (k := 12) rfl) (by rw [HCS.out]; kernel_rfl) ?_ ?_
                · intro wx hx ρ hρ hs hf
                  have hρc := hρ.const
                  have hρf := hρ.func
                  obtain ⟨sn3, sn11, -⟩ := hs
                  rw [place_at HVS.out (k := 3) rfl] at sn3
                  replace sn3 : ρ (.tmp 148) = _ := sn3
                  rw [place_at HVS.out (k := 11) rfl] at sn11
                  replace sn11 : ρ (.tmp 156) = _ := sn11
                  clear hf
                  clear HCS HVS qs8 qs21 qs22
                  refine run_plain ?_
                  unfold runs
                  go_simp
                  exact detK.mk
                exact trivial
              case hend =>
                intro xs wx hx hg
                have gk0 : xs 0 = _ := goods_get hg (i := 0) (j := 0) (d := 145) rfl
                have gk1 : xs 1 = _ := goods_get hg (i := 1) (j := 1) (d := 146) rfl
                have gk2 : xs 2 = _ := goods_get hg (i := 2) (j := 2) (d := 147) rfl
                have gk3 : xs 3 = _ := goods_get hg (i := 3) (j := 3) (d := 148) rfl
                have gk4 : xs 4 = _ := goods_get hg (i := 4) (j := 4) (d := 149) rfl
                have gk5 : xs 5 = _ := goods_get hg (i := 5) (j := 5) (d := 150) rfl
                have gk6 : xs 6 = _ := goods_get hg (i := 6) (j := 6) (d := 151) rfl
                have gk7 : xs 7 = _ := goods_get hg (i := 7) (j := 7) (d := 152) rfl
                have gk8 : xs 8 = _ := goods_get hg (i := 8) (j := 8) (d := 153) rfl
                have gk9 : xs 9 = _ := goods_get hg (i := 9) (j := 9) (d := 154) rfl
                have gk10 : xs 10 = _ := goods_get hg (i := 10) (j := 10) (d := 155) rfl
                have gk11 : xs 11 = _ := goods_get hg (i := 11) (j := 11) (d := 156) rfl
                have gk12 : xs 12 = _ := goods_get hg (i := 12) (j := 12) (d := 157) rfl
                clear hg
                simp only [putAll, gk0, gk1, gk2, gk3, gk4, gk5, gk6, gk7, gk8, gk9, gk10, gk11, gk12]
                clear gk0 gk1 gk2 gk3 gk4 gk5 gk6 gk7 gk8 gk9 gk10 gk11 gk12
                clear xs
                simp only [Act.put, List.setIfInBounds_toArray, List.set_cons_zero, List.set_cons_succ]
                go_wp2
                go_roundw
                case rel => exact ⟨i + 1, by go_num, by omega, hxy.trans hx.drawn⟩
                case measure => simp [intOf]; omega
            · obtain rfl : i = pile.length := by omega
              have hiI : ¬ (pile.length : Int) < (pile.length : Int) := by omega
              clear hf1 hown
              go_wp2
              go_ret
              exact ⟨rfl, hWr.trans hxy⟩
        have hjI : (j : Int) < (m : Int) := by omega
        obtain ⟨ad, z, rfl, hcz, hzz⟩ := bytes_cell (hM.ext hWr) hjm
        have hy2 : Int.tmod (z : Int) 2 = (z : Int) % 2 := by rw [Int.tmod_eq_emod_of_nonneg (by omega)]
        have hy3 : IntKind.u8.wrap ((z : Int) % 2) = (z : Int) % 2 := by rw [IntKind.wrap_u8]; omega
        have hway : (¬ (z : Int) % 2 = 0 ∧ 0 < held.length) ∨ ((z : Int) % 2 = 0) ∨ (¬ (z : Int) % 2 = 0 ∧ held.length = 0) := by omega
        rcases hway with ⟨hy1, hh1⟩ | hy1 | ⟨hy1, hh1⟩
        · have hy4 : IntKind.i64.wrap (z : Int) = (z : Int) := by rw [IntKind.wrap_i64]; omega
          have hy5 : Int.tdiv (z : Int) 2 = (z : Int) / 2 := by rw [Int.tdiv_eq_ediv_of_nonneg (by omega)]
          have hy6 : IntKind.i64.wrap ((z : Int) / 2) = (z : Int) / 2 := by rw [IntKind.wrap_i64]; omega
          have hy7 : Int.tmod ((z : Int) / 2) (held.length : Int) = ((z / 2 % held.length : Nat) : Int) := by
            rw [Int.tmod_eq_emod_of_nonneg (by omega)]; simp
          have hkn : z / 2 % held.length < held.length := Nat.mod_lt _ hh1
          obtain ⟨k, hk⟩ : ∃ k, z / 2 % held.length = k := ⟨_, rfl⟩
          rw [hk] at hy7 hkn
          have hy8 : IntKind.i64.wrap (k : Int) = (k : Int) := by rw [IntKind.wrap_i64]; omega
          have hl0 : ¬ (held.length : Int) = 0 := by omega
          have hl1 : ¬ held.length = 0 := by omega
          have hyB : ((z : Int) % 2 == 0) = false := beq_eq_false_iff_ne.2 hy1
          have hlB : ((held.length : Int) == 0) = false := beq_eq_false_iff_ne.2 hl0
          have hl2 : ¬ held = [] := fun e => by rw [e] at hh1; simp at hh1
          clear hk
          obtain ⟨x, hx⟩ : ∃ x, held[k]? = some x := ⟨_, List.getElem?_eq_getElem hkn⟩
          have hspl := list_cut hx
          have hps := HK.push (h1 := held.take k) (h2 := held.drop (k + 1)) (by rw [← hspl]; exact hhk)
          obtain ⟨hhk1, hxn, hx1, hxN⟩ := hps
          obtain ⟨hkl1, hkl2, -⟩ := cut_len hkn
          have hpp := push_pool hpj hx1 hxN hxn
          have hk1 := hkj.push 1 x
          have hcon := fun W => pal_push Xj 1 N hpj.dim hkj (.agg #[.int .i64 Xj.T, .int .i64 Xj.C, .slice bA bq bc, .int .u64 Xj.R, .slice bB Xj.n bb, .slice bC Xj.n bd]) 0 x 0 0 3 hx1 hxN 3 rfl (by omega) (by omega) W
          generalize pushX Xj 1 x = X1 at *
          obtain ⟨hp1, -⟩ := hpp
          obtain ⟨g1, c1, e1, hg1, hnc1, hc1m, hcl, hcut⟩ := hoH.cut hx
          cases e1
          obtain ⟨kr, hkr⟩ : ∃ kr, kr = held.length - (k + 1) := ⟨_, rfl⟩
          obtain ⟨kc, hkc⟩ : ∃ kc, kc = hvc - (k + 1) := ⟨_, rfl⟩
          rw [← hkr] at hkl2
          obtain ⟨ka, hkaC, hcut⟩ : ∃ ka, ((hvc = k + 1 ∧ ka = 0) ∨ (¬ hvc = k + 1 ∧ ka = k + 1)) ∧ ∀ w', Ext wr w' → (∀ (j : Nat) (u : Value), (intCells (held.take k))[j]? = some u → w'.cell? ((⟨g1, 0, none⟩ : Addr).add j) = some u) ∧ (∀ (j : Nat) (u : Value), (intCells (held.drop (k + 1)))[j]? = some u → w'.cell? ((⟨g1, ka, none⟩ : Addr).add j) = some u) := cut_addr hcut hkl2 (by omega) (by omega)
          have hkw : IntKind.i64.wrap ((k : Int) + 1) = (k : Int) + 1 := by rw [IntKind.wrap_i64]; omega
          have hkt : ((k : Int) + 1).toNat = k + 1 := by omega
          have hkz : (0 : Int) ≤ (k : Int) + 1 := by omega
          have hkb : k + kr ≤ 100 := by omega
          have hkI : (k : Int) < (held.length : Int) := by omega
          have hkI2 : (k : Int) + 1 ≤ (held.length : Int) := by omega
          have hkI3 : (k : Int) ≤ (hvc : Int) := by omega
          have hkI4 : (held.length : Int) ≤ (hvc : Int) := by omega
          have hrowE : (x :: pile).reverse = pile.reverse ++ [x] := by simp
          have hhlt := (hoH.lt (k := g1) rfl).2
          have hplt : ∀ g, (Value.slice pB pile.length pc).ownBlock = some g → g < wr.heap.size := fun g hg => (hown.lt hg).2
          have hy1' : ¬ (z : Int) % 2 = 0 := hy1
          have HSP := Lib.hid hspl
          have HKA := Lib.hid hkaC
          have HKR := Lib.hid hkr
          have HKC := Lib.hid hkc
          have HKT := Lib.hid hkt
          have HKW := Lib.hid hkw
          clear hkaC hkr hkc hkt hkw
          have HRE := Lib.hid hrowE
          clear hspl hrowE hx
          have e0 : wr.cell? ⟨ga, 0, none⟩ = some (.int .i64 Xj.T) := by simp [World.cell?, hb0]
          have e1 : wr.cell? ⟨ga, 1, none⟩ = some (.int .i64 Xj.C) := by simp [World.cell?, hb0]
          have e2 : wr.cell? ⟨ga, 2, none⟩ = some (.slice bA bq bc) := by simp [World.cell?, hb0]
          have e3 : wr.cell? ⟨ga, 3, none⟩ = some (.int .u64 Xj.R) := by simp [World.cell?, hb0]
          have e4 : wr.cell? ⟨ga, 4, none⟩ = some (.slice bB Xj.n bb) := by simp [World.cell?, hb0]
          have e5 : wr.cell? ⟨ga, 5, none⟩ = some (.slice bC Xj.n bd) := by simp [World.cell?, hb0]
          go_wp2_with fail
          refine (hcon _ hbV).mono ?_
          clear hcon hcz hcl
          rintro e w7 ⟨v_, rfl, hVc, hx_⟩
          obtain ⟨cA, cq, cc, cB, cb, cC, cd, rfl⟩ := hVc.form6
          replace hgr := Nat.le_trans hgr hx_.size
          replace hhlt := Nat.lt_of_lt_of_le hhlt hx_.size
          have hplt2 : ∀ g, (Value.slice pB pile.length pc).ownBlock = some g → g < w7.heap.size := fun g hg => Nat.lt_of_lt_of_le (hplt g hg) hx_.size
          replace hcut := fun w' (hx : Ext w7 w') => hcut w' (hx_.trans hx)
          clear hplt
          clear e0 e1 e2 e3 e4 e5
          replace hb0 := heap_ext hb0 hx_
          replace hbV := hbV.ext hx_
          replace hown := hown.ext hx_
          replace hWr := hWr.trans hx_
          clear hx_
          go_upto_region 28 with (fail)
          obtain ⟨hx_, hbc, hoc⟩ := two_boxes7 w7 (.cells #[.int .i64 X1.T, .int .i64 X1.C, .slice cA cq cc, .int .u64 X1.R, .slice cB X1.n cb, .slice cC X1.n cd] 51) (.cells #[.int .i64 0, .bool false, .int .i64 0, .int .u64 0, .slice none 0 0] 37)
          generalize (w7.alloc (.cells #[.int .i64 X1.T, .int .i64 X1.C, .slice cA cq cc, .int .u64 X1.R, .slice cB X1.n cb, .slice cC X1.n cd] 51)).alloc (.cells #[.int .i64 0, .bool false, .int .i64 0, .int .u64 0, .slice none 0 0] 37) = W7 at *
          have hgc := hgr
          replace hgr := Nat.le_trans hgr hx_.size
          replace hhlt := Nat.lt_of_lt_of_le hhlt hx_.size
          have hplt : ∀ g, (Value.slice pB pile.length pc).ownBlock = some g → g < W7.heap.size := fun g hg => Nat.lt_of_lt_of_le (hplt2 g hg) hx_.size
          replace hcut := fun w' (hx : Ext W7 w') => hcut w' (hx_.trans hx)
          clear hplt2
          generalize w7.heap.size = gc at *
          replace hb0 := heap_ext hb0 hx_
          replace hbV := hbV.ext hx_
          replace hown := hown.ext hx_
          replace hVc := hVc.ext hx_
          replace hWr := hWr.trans hx_
          clear hx_
          go_upto_region 30 with (fail)
          refine' wp_region_sure_all ⟨((some 116, [], none) :: (some 117, [], none) :: (some 118, [], none) :: (some 119, [1, 2], none) :: (some 120, [0, 3], none) :: (some 121, [], none) :: (some 122, [], none) :: (some 123, [6], none) :: (some 124, [5, 7], none) :: (some 125, [4, 8, 4], none) :: (some 9, [9, 9, 0, 1, 2, 3, 4, 5, 6, 7, 8, 9], none) :: []), (0 :: 0 :: 0 :: 6 :: 15 :: 0 :: 0 :: 64 :: 224 :: 511 :: 1023 :: []), (false :: true :: true :: true :: false :: true :: true :: true :: true :: false :: false :: []), [4, 9], 3⟩ 11 159 ((0, 116) :: (1, 117) :: (2, 118) :: (3, 119) :: (4, 120) :: (5, 121) :: (6, 122) :: (7, 123) :: (8, 124) :: (9, 125) :: (10, 9) :: []) ((1, 117) :: (2, 118) :: (3, 119) :: (5, 121) :: (6, 122) :: (7, 123) :: (8, 124) :: (9, 125) :: (10, 9) :: []) (Good.of (fun v w => IntSome w W7.heap.size v 0 []) (fun v w w' h hx => IntSome.ext h hx) :: .det _ :: .det _ :: .det _ :: Good.of (fun v w => IntSome w W7.heap.size v (0 + k) ([] ++ held.take k)) (fun v w w' h hx => IntSome.ext h hx) :: .det _ :: .det _ :: .det _ :: (Good.own fun v => v = .slice (some ⟨g1, ka, none⟩) kr kc) :: Good.of (fun v w => IntSome w W7.heap.size v (0 + k + kr) ([] ++ held.take k ++ held.drop (k + 1))) (fun v w w' h hx => IntSome.ext h hx) :: Good.of (fun v w => IntSome w W7.heap.size v (0 + k + kr) ([] ++ held.take k ++ held.drop (k + 1))) (fun v w w' h hx => IntSome.ext h hx) :: []) (by kernel_rfl) (by kernel_rfl) (by kernel_rfl) rfl (by kernel_rfl) (by kernel_rfl) rfl (by kernel_rfl) ?hone ?hend
          case hone =>
            intro CS frS VS hCS ha hV
            have qs9 := slot_val (t := 9) ha rfl
            simp only [List.getElem_toArray, List.getElem_cons_succ, List.getElem_cons_zero] at qs9
            have qs16 := slot_val (t := 16) ha rfl
            simp only [List.getElem_toArray, List.getElem_cons_succ, List.getElem_cons_zero] at qs16
            have HCS := Lib.hid hCS
            have HVS := Lib.hid hV
            clear ha hCS hV
            -- 0: slot 116 := Op.buildSlice 35 0 #[]
            refine sure_op (js := []) (ts := []) (gd := none) (place_at HVS.out (k := 0) rfl) (by rw [HCS.out]; kernel_rfl) ?_ ?_
            · intro wx hx ρ hρ hs hf
              have hρc := hρ.const
              have hρf := hρ.func
              clear hs
              clear hf
              clear HCS HVS qs9 qs16
              refine run_plain ?_
              refine op_buildSlice rfl (by simpa using hr0 wx) ?_
              exact ⟨Ext.refl _ |>.alloc (Nat.le_refl _) _, int0_some wx _ hx.size⟩
            -- 1: slot 117 := Op.move t9
            refine sure_det (js := []) (ts := [9]) (gd := none) (place_at HVS.out (k := 1) rfl) (by rw [HCS.out]; kernel_rfl) ?_ ?_
            · intro wx hx ρ hρ hs hf
              have hρc := hρ.const
              have hρf := hρ.func
              obtain ⟨fx9, -⟩ := hf
              rw [qs9] at fx9
              clear hs
              clear HCS HVS qs9 qs16
              refine run_plain ?_
              refine op_move rfl fx9 ?_
              exact detK.mk
            -- 2: slot 118 := Op.move t16
            refine sure_det (js := []) (ts := [16]) (gd := none) (place_at HVS.out (k := 2) rfl) (by rw [HCS.out]; kernel_rfl) ?_ ?_
            · intro wx hx ρ hρ hs hf
              have hρc := hρ.const
              have hρf := hρ.func
              obtain ⟨fx16, -⟩ := hf
              rw [qs16] at fx16
              clear hs
              clear HCS HVS qs9 qs16
              refine run_plain ?_
              refine op_move rfl fx16 ?_
              exact detK.mk
            -- 3: slot 119 := Op.slice 35 t117 none (some t118) none
            refine sure_det (js := [(1, 117), (2, 118)]) (ts := []) (gd := none) (place_at HVS.out (k := 3) rfl) (by rw [HCS.out]; kernel_rfl) ?_ ?_
            · intro wx hx ρ hρ hs hf
              have hρc := hρ.const
              have hρf := hρ.func
              obtain ⟨sn1, sn2, -⟩ := hs
              rw [place_at HVS.out (k := 1) rfl] at sn1
              replace sn1 : ρ (.tmp 117) = _ := sn1
              rw [place_at HVS.out (k := 2) rfl] at sn2
              replace sn2 : ρ (.tmp 118) = _ := sn2
              clear hf
              clear HCS HVS qs9 qs16
              refine run_plain ?_
              unfold runs
              go_simp
              exact detK.mk
            -- 4: slot 120 := Op.call { append, args := #[t116, t119], argTypes := #[35, 35] }
            refine sure_wild (js := [(0, 116), (3, 119)]) (ts := []) (gd := none) (place_at HVS.out (k := 4) rfl) (by rw [HCS.out]) (by rw [HCS.out]; kernel_rfl) ?_ ?_
            · intro wx hx ρ hρ hs hf
              have hρc := hρ.const
              have hρf := hρ.func
              obtain ⟨sn0, sn3, -⟩ := hs
              rw [place_at HVS.out (k := 0) rfl] at sn0
              replace sn0 : IntSome wx W7.heap.size (ρ (.tmp 116)) 0 [] := sn0
              rw [place_at HVS.out (k := 3) rfl] at sn3
              replace sn3 : ρ (.tmp 119) = _ := sn3
              clear hf
              clear HCS HVS qs9 qs16
              refine run_plain ?_
              obtain ⟨v', w', hr, ho, hb, hwr⟩ := run_append_some (P := Try.prog) (w := wx) W7.heap.size 35 35 i0 Try.underlying35 hi0 hz0 hz1 hz2 _ 0 [] sn0 ⟨g1, 0, none⟩ k hvc (held.take k) hkl1 (hcut wx hx.drawn).1 (by omega) hx.size
              refine op_append rfl rfl sn3 hr ?_
              exact ⟨⟨hb, hwr⟩, ho⟩
            -- 5: slot 121 := Op.move t9
            refine sure_det (js := []) (ts := [9]) (gd := none) (place_at HVS.out (k := 5) rfl) (by rw [HCS.out]; kernel_rfl) ?_ ?_
            · intro wx hx ρ hρ hs hf
              have hρc := hρ.const
              have hρf := hρ.func
              obtain ⟨fx9, -⟩ := hf
              rw [qs9] at fx9
              clear hs
              clear HCS HVS qs9 qs16
              refine run_plain ?_
              refine op_move rfl fx9 ?_
              exact detK.mk
            -- 6: slot 122 := Op.move t16
            refine sure_det (js := []) (ts := [16]) (gd := none) (place_at HVS.out (k := 6) rfl) (by rw [HCS.out]; kernel_rfl) ?_ ?_
            · intro wx hx ρ hρ hs hf
              have hρc := hρ.const
              have hρf := hρ.func
              obtain ⟨fx16, -⟩ := hf
              rw [qs16] at fx16
              clear hs
              clear HCS HVS qs9 qs16
              refine run_plain ?_
              refine op_move rfl fx16 ?_
              exact detK.mk
            -- 7: slot 123 := Op.binOp BinOp.add 3 t122 ((i64 1)) 3
            refine sure_det (js := [(6, 122)]) (ts := []) (gd := none) (place_at HVS.out (k := 7) rfl) (by rw [HCS.out]; kernel_rfl) ?_ ?_
            · intro wx hx ρ hρ hs hf
              have hρc := hρ.const
              have hρf := hρ.func
              obtain ⟨sn6, -⟩ := hs
              rw [place_at HVS.out (k := 6) rfl] at sn6
              replace sn6 : ρ (.tmp 122) = _ := sn6
              clear hf
              clear HCS HVS qs9 qs16
              refine run_plain ?_
              unfold runs
              go_simp
              exact detK.mk
            -- 8: slot 124 := Op.slice 35 t121 (some t123) none none
            refine sure_op (js := [(5, 121), (7, 123)]) (ts := []) (gd := none) (place_at HVS.out (k := 8) rfl) (by rw [HCS.out]; kernel_rfl) ?_ ?_
            · intro wx hx ρ hρ hs hf
              have hρc := hρ.const
              have hρf := hρ.func
              obtain ⟨sn5, sn7, -⟩ := hs
              rw [place_at HVS.out (k := 5) rfl] at sn5
              replace sn5 : ρ (.tmp 121) = _ := sn5
              rw [place_at HVS.out (k := 7) rfl] at sn7
              replace sn7 : ρ (.tmp 123) = _ := sn7
              clear hf
              clear HCS HVS qs9 qs16
              refine run_plain ?_
              have hkaC := HKA.out
              have hkr := HKR.out
              have hkc := HKC.out
              have hkt := HKT.out
              have hkw := HKW.out
              unfold runs
              rcases hkaC with ⟨hcc, hka⟩ | ⟨hcc, hka⟩ <;> go_simp <;> exact ⟨Ext.refl _, rfl⟩
            -- 9: slot 125 := Op.call { append, args := #[t120, t124], argTypes := #[35, 35] }
            refine sure_wild (js := [(4, 120), (8, 124)]) (ts := []) (gd := none) (place_at HVS.out (k := 9) rfl) (by rw [HCS.out]) (by rw [HCS.out]; kernel_rfl) ?_ ?_
            · intro wx hx ρ hρ hs hf
              have hρc := hρ.const
              have hρf := hρ.func
              obtain ⟨sn4, sn8, -⟩ := hs
              rw [place_at HVS.out (k := 4) rfl] at sn4
              replace sn4 : IntSome wx W7.heap.size (ρ (.tmp 120)) (0 + k) ([] ++ held.take k) := sn4
              rw [place_at HVS.out (k := 8) rfl] at sn8
              replace sn8 : (ρ (.tmp 124)) = .slice (some ⟨g1, ka, none⟩) kr kc := sn8
              clear hf
              clear HCS HVS qs9 qs16
              refine run_plain ?_
              obtain ⟨v', w', hr, ho, hb, hwr⟩ := run_append_some (P := Try.prog) (w := wx) W7.heap.size 35 35 i0 Try.underlying35 hi0 hz0 hz1 hz2 _ (0 + k) ([] ++ held.take k) sn4 ⟨g1, ka, none⟩ kr kc (held.drop (k + 1)) hkl2 (hcut wx hx.drawn).2 (by omega) hx.size
              refine op_append rfl rfl sn8 hr ?_
              exact ⟨⟨hb, hwr⟩, ho⟩
            -- 10: slot 9 := Op.assign t125
            refine sure_op (js := [(9, 125)]) (ts := []) (gd := none) (place_at HVS.out (k := 10) rfl) (by rw [HCS.out]; kernel_rfl) ?_ ?_
            · intro wx hx ρ hρ hs hf
              have hρc := hρ.const
              have hρf := hρ.func
              obtain ⟨sn9, -⟩ := hs
              rw [place_at HVS.out (k := 9) rfl] at sn9
              replace sn9 : IntSome wx W7.heap.size (ρ (.tmp 125)) (0 + k + kr) ([] ++ held.take k ++ held.drop (k + 1)) := sn9
              clear hf
              clear HCS HVS qs9 qs16
              refine run_plain ?_
              refine op_assign rfl rfl ?_
              exact ⟨Ext.refl _, sn9⟩
            exact trivial
          case hend =>
            intro xs wx hx hg
            have gk1 : xs 1 = _ := goods_get hg (i := 0) (j := 1) (d := 117) rfl
            have gk2 : xs 2 = _ := goods_get hg (i := 1) (j := 2) (d := 118) rfl
            have gk3 : xs 3 = _ := goods_get hg (i := 2) (j := 3) (d := 119) rfl
            have gk5 : xs 5 = _ := goods_get hg (i := 3) (j := 5) (d := 121) rfl
            have gk6 : xs 6 = _ := goods_get hg (i := 4) (j := 6) (d := 122) rfl
            have gk7 : xs 7 = _ := goods_get hg (i := 5) (j := 7) (d := 123) rfl
            have gk8 : (xs 8) = .slice (some ⟨g1, ka, none⟩) kr kc := goods_get hg (i := 6) (j := 8) (d := 124) rfl
            have gk9 : IntSome wx W7.heap.size (xs 9) (0 + k + kr) ([] ++ held.take k ++ held.drop (k + 1)) := goods_get hg (i := 7) (j := 9) (d := 125) rfl
            have gk10 : IntSome wx W7.heap.size (xs 10) (0 + k + kr) ([] ++ held.take k ++ held.drop (k + 1)) := goods_get hg (i := 8) (j := 10) (d := 9) rfl
            clear hg
            simp only [putAll, gk1, gk2, gk3, gk5, gk6, gk7]
            clear gk1 gk2 gk3 gk5 gk6 gk7
            generalize xs 0 = vx0
            generalize xs 4 = vx4
            generalize xs 8 = vx8 at gk8 ⊢
            generalize xs 9 = vx9 at gk9 ⊢
            generalize xs 10 = vx10 at gk10 ⊢
            clear xs
            simp only [Act.put, List.setIfInBounds_toArray, List.set_cons_zero, List.set_cons_succ]
            have hnewh := gk10
            clear gk10
            go_upto_region 31 with (fail)
            have hx2 : Ext W7 wx := hx.drawn
            obtain ⟨hnew1, -⟩ := hnewh
            rw [List.nil_append] at hnew1
            generalize hrow : held.take k ++ held.drop (k + 1) = row at *
            have hrl : row.length = 0 + k + kr := hnew1.1
            have hoH2 : IntOwn wx gs vx10 row.length row := by rw [hrl]; exact hnew1.base_le hgr
            have hne2 : ∀ g, vx10.ownBlock = some g → (Value.slice pB pile.length pc).ownBlock ≠ some g := fun g h1 h2 => by
              have h3 := (hnew1.lt h1).1
              have h4 := hplt g h2
              omega
            obtain ⟨nB, nc2, rfl, -, -, -, hnl1, hnl2⟩ := hoH2.form
            have hvlt : ∀ g, (Value.slice nB row.length nc2).ownBlock = some g → g < wx.heap.size := fun g hg => (hoH2.lt hg).2
            replace hb0 := heap_ext hb0 hx2
            replace hbc := heap_ext hbc hx2
            replace hbV := hbV.ext hx2
            replace hVc := hVc.ext hx2
            replace hown := hown.ext hx2
            replace hWr := hWr.trans hx2
            replace hgr := Nat.le_trans hgr hx2.size
            clear hx hx2 hnew1 hcut hoH hne hplt hhlt hoc hrow hrl HKA HKR HKC HKT HKW HSP
            have hWn : Ext wx (wx.alloc (.cells #[.int .i64 x] 3)) := (Below.refl _ wx).alloc (Nat.le_refl _) _
            have hcn : ∀ (i : Nat) (u : Value), (intCells [x])[i]? = some u → (wx.alloc (.cells #[.int .i64 x] 3)).cell? ((⟨wx.heap.size, 0, none⟩ : Addr).add i) = some u := heap_cells (heap_alloc_new wx _)
            have hown2 := hown.ext hWn
            go_upto_region 32 with (at_builtin; go_loud (refine wpList_append_int rfl (.tmp 126) (.tmp 128) _ rfl gs i0 Try.underlying35 hi0 hz0 hz1 hz2 _ pile.length pile.reverse rfl hown2 ⟨wx.heap.size, 0, none⟩ 1 1 [x] rfl (by intro _; omega) rfl hcn (by omega) (Nat.le_trans hgr hWn.size) ?_); intro v2 w8 hown5 hg5 hob5)
            have hW5 := grownI_ext hown2 hg5 (hWr.trans hWn) hls2
            have hb5 := grownI_heap hown2 hg5 (hown2.low hlg) (heap_ext hb0 hWn)
            have hb6 := grownI_heap hown2 hg5 (hown2.ne_box (heap_ext hbc hWn) (by decide)) (heap_ext hbc hWn)
            have hV5 := WldV.grownI hown2 hg5 (hbV.ext hWn) hkj.2.2
            have hV6 := WldV.grownI hown2 hg5 (hVc.ext hWn) hk1.2.2
            have hoH6 := (hoH2.ext hWn).grown hg5 hne2
            have hne5 : ∀ g, (Value.slice nB row.length nc2).ownBlock = some g → v2.ownBlock ≠ some g := fun g hg h2 => by
              rcases hob5 with h3 | h3
              · exact hne2 g hg (h3.symm.trans h2)
              · rw [h3] at h2; injection h2 with h2; have := hvlt g hg; have := hWn.size; omega
            have hgr5 : gs ≤ w8.heap.size := Nat.le_trans hgr (Nat.le_trans hWn.size hg5.size)
            have hown7 : IntOwn w8 gs v2 (x :: pile).length (x :: pile).reverse := by rw [HRE.out]; exact hown5
            clear hown2 hg5 hob5 hcn hWn hoH2 hown hown5 hb0 hbV hVc hgr hbc hne2 hvlt hWr
            have hown := hown7
            have hoH := hoH6
            have hb0 := hb5
            have hbc := hb6
            have hbV := hV5
            have hVc := hV6
            have hWr := hW5
            have hgr := hgr5
            clear hown7 hoH6 hb5 hb6 hV5 hV6 hW5 hgr5
            have nc : ¬ ga = gc := by omega
            have nc' : ¬ gc = ga := by omega
            have f0 : w8.cell? ⟨gc, 0, none⟩ = some (.int .i64 X1.T) := by simp [World.cell?, hbc]
            have f1 : w8.cell? ⟨gc, 1, none⟩ = some (.int .i64 X1.C) := by simp [World.cell?, hbc]
            have f2 : w8.cell? ⟨gc, 2, none⟩ = some (.slice cA cq cc) := by simp [World.cell?, hbc]
            have f3 : w8.cell? ⟨gc, 3, none⟩ = some (.int .u64 X1.R) := by simp [World.cell?, hbc]
            have f4 : w8.cell? ⟨gc, 4, none⟩ = some (.slice cB X1.n cb) := by simp [World.cell?, hbc]
            have f5 : w8.cell? ⟨gc, 5, none⟩ = some (.slice cC X1.n cd) := by simp [World.cell?, hbc]
            have e0 : w8.cell? ⟨ga, 0, none⟩ = some (.int .i64 Xj.T) := by simp [World.cell?, hb0]
            have ef0 : w8.frozen? ⟨ga, 0, none⟩ = false := by simp [World.frozen?, hb0]
            have e1 : w8.cell? ⟨ga, 1, none⟩ = some (.int .i64 Xj.C) := by simp [World.cell?, hb0]
            have ef1 : w8.frozen? ⟨ga, 1, none⟩ = false := by simp [World.frozen?, hb0]
            have e2 : w8.cell? ⟨ga, 2, none⟩ = some (.slice bA bq bc) := by simp [World.cell?, hb0]
            have ef2 : w8.frozen? ⟨ga, 2, none⟩ = false := by simp [World.frozen?, hb0]
            have e3 : w8.cell? ⟨ga, 3, none⟩ = some (.int .u64 Xj.R) := by simp [World.cell?, hb0]
            have ef3 : w8.frozen? ⟨ga, 3, none⟩ = false := by simp [World.frozen?, hb0]
            have e4 : w8.cell? ⟨ga, 4, none⟩ = some (.slice bB Xj.n bb) := by simp [World.cell?, hb0]
            have ef4 : w8.frozen? ⟨ga, 4, none⟩ = false := by simp [World.frozen?, hb0]
            have e5 : w8.cell? ⟨ga, 5, none⟩ = some (.slice bC Xj.n bd) := by simp [World.cell?, hb0]
            have ef5 : w8.frozen? ⟨ga, 5, none⟩ = false := by simp [World.frozen?, hb0]
            go_wp2
            have hb0_ : ((((((w8.setCell ⟨ga, 0, none⟩ (.int .i64 X1.T)).setCell ⟨ga, 1, none⟩ (.int .i64 X1.C)).setCell ⟨ga, 2, none⟩ (.slice cA cq cc)).setCell ⟨ga, 3, none⟩ (.int .u64 X1.R)).setCell ⟨ga, 4, none⟩ (.slice cB X1.n cb)).setCell ⟨ga, 5, none⟩ (.slice cC X1.n cd)).heap[ga]? = some (.cells #[.int .i64 X1.T, .int .i64 X1.C, .slice cA cq cc, .int .u64 X1.R, .slice cB X1.n cb, .slice cC X1.n cd] 51 (0, 0)) := setAll_all (vs := [.int .i64 X1.T, .int .i64 X1.C, .slice cA cq cc, .int .u64 X1.R, .slice cB X1.n cb, .slice cC X1.n cd]) hb0 rfl
            have hWs_ : Ext w ((((((w8.setCell ⟨ga, 0, none⟩ (.int .i64 X1.T)).setCell ⟨ga, 1, none⟩ (.int .i64 X1.C)).setCell ⟨ga, 2, none⟩ (.slice cA cq cc)).setCell ⟨ga, 3, none⟩ (.int .u64 X1.R)).setCell ⟨ga, 4, none⟩ (.slice cB X1.n cb)).setCell ⟨ga, 5, none⟩ (.slice cC X1.n cd)) := setAll_ext (g := ga) (vs := [.int .i64 X1.T, .int .i64 X1.C, .slice cA cq cc, .int .u64 X1.R, .slice cB X1.n cb, .slice cC X1.n cd]) (i := 0) hWr hls
            have hk_ : ∀ g, g ≠ ga → ((((((w8.setCell ⟨ga, 0, none⟩ (.int .i64 X1.T)).setCell ⟨ga, 1, none⟩ (.int .i64 X1.C)).setCell ⟨ga, 2, none⟩ (.slice cA cq cc)).setCell ⟨ga, 3, none⟩ (.int .u64 X1.R)).setCell ⟨ga, 4, none⟩ (.slice cB X1.n cb)).setCell ⟨ga, 5, none⟩ (.slice cC X1.n cd)).heap[g]? = w8.heap[g]? := fun g hg => setAll_other (g := ga) (k := g) hg [.int .i64 X1.T, .int .i64 X1.C, .slice cA cq cc, .int .u64 X1.R, .slice cB X1.n cb, .slice cC X1.n cd] 0 w8
            have hVc_ := hVc.but hk1.2.2 (But.all ga [.int .i64 X1.T, .int .i64 X1.C, .slice cA cq cc, .int .u64 X1.R, .slice cB X1.n cb, .slice cC X1.n cd] 0 w8) hb0 rfl
            change WldV ((((((w8.setCell ⟨ga, 0, none⟩ (.int .i64 X1.T)).setCell ⟨ga, 1, none⟩ (.int .i64 X1.C)).setCell ⟨ga, 2, none⟩ (.slice cA cq cc)).setCell ⟨ga, 3, none⟩ (.int .u64 X1.R)).setCell ⟨ga, 4, none⟩ (.slice cB X1.n cb)).setCell ⟨ga, 5, none⟩ (.slice cC X1.n cd)) _ _ at hVc_
            have hsz_ : ((((((w8.setCell ⟨ga, 0, none⟩ (.int .i64 X1.T)).setCell ⟨ga, 1, none⟩ (.int .i64 X1.C)).setCell ⟨ga, 2, none⟩ (.slice cA cq cc)).setCell ⟨ga, 3, none⟩ (.int .u64 X1.R)).setCell ⟨ga, 4, none⟩ (.slice cB X1.n cb)).setCell ⟨ga, 5, none⟩ (.slice cC X1.n cd)).heap.size = w8.heap.size := by simp [World.setCell]
            have hown_ := hown.kept (w' := ((((((w8.setCell ⟨ga, 0, none⟩ (.int .i64 X1.T)).setCell ⟨ga, 1, none⟩ (.int .i64 X1.C)).setCell ⟨ga, 2, none⟩ (.slice cA cq cc)).setCell ⟨ga, 3, none⟩ (.int .u64 X1.R)).setCell ⟨ga, 4, none⟩ (.slice cB X1.n cb)).setCell ⟨ga, 5, none⟩ (.slice cC X1.n cd))) (fun g o hb hv ho => (hk_ g (by omega)).trans ho)
            have hoH_ := hoH.kept (w' := ((((((w8.setCell ⟨ga, 0, none⟩ (.int .i64 X1.T)).setCell ⟨ga, 1, none⟩ (.int .i64 X1.C)).setCell ⟨ga, 2, none⟩ (.slice cA cq cc)).setCell ⟨ga, 3, none⟩ (.int .u64 X1.R)).setCell ⟨ga, 4, none⟩ (.slice cB X1.n cb)).setCell ⟨ga, 5, none⟩ (.slice cC X1.n cd))) (fun g o hb hv ho => (hk_ g (by omega)).trans ho)
            have hgr_ : gs ≤ ((((((w8.setCell ⟨ga, 0, none⟩ (.int .i64 X1.T)).setCell ⟨ga, 1, none⟩ (.int .i64 X1.C)).setCell ⟨ga, 2, none⟩ (.slice cA cq cc)).setCell ⟨ga, 3, none⟩ (.int .u64 X1.R)).setCell ⟨ga, 4, none⟩ (.slice cB X1.n cb)).setCell ⟨ga, 5, none⟩ (.slice cC X1.n cd)).heap.size := by rw [hsz_]; exact hgr
            clear hk_ hsz_ hown hoH hgr hb0 hVc hWr hbc hbV f0 f1 f2 f3 f4 f5 e0 e1 e2 e3 e4 e5 ef0 ef1 ef2 ef3 ef4 ef5
            generalize ((((((w8.setCell ⟨ga, 0, none⟩ (.int .i64 X1.T)).setCell ⟨ga, 1, none⟩ (.int .i64 X1.C)).setCell ⟨ga, 2, none⟩ (.slice cA cq cc)).setCell ⟨ga, 3, none⟩ (.int .u64 X1.R)).setCell ⟨ga, 4, none⟩ (.slice cB X1.n cb)).setCell ⟨ga, 5, none⟩ (.slice cC X1.n cd)) = wg at *
            go_roundw
            case rel => exact ⟨j + 1, X1, x :: pile, row, by go_num, by omega, ⟨_, hb0_, hVc_⟩, hp1, hk1, hhk1, hown_, hoH_, hne5, hWs_, hgr_⟩
            case measure => simp [intOf]; omega
        all_goals
          try (have hh3 : (held.length : Int) = 0 := by omega
               clear hh1)
          rcases pile with _ | ⟨x, pl⟩
          · have hk1 := hkj
            have hcon := fun W => pal_pop Xj 1 N [] hpj hkj (.agg #[.int .i64 Xj.T, .int .i64 Xj.C, .slice bA bq bc, .int .u64 Xj.R, .slice bB Xj.n bb, .slice bC Xj.n bd]) 0 0 0 0 3 3 rfl (by omega) (by omega) W
            rw [show ([] : List Int).headD 0 = 0 from rfl] at hcon
            rw [show popW Xj 1 [] = Xj from rfl] at hcon
            have hp1 := hpj
            have hhk1 := hhk
            have e0 : wr.cell? ⟨ga, 0, none⟩ = some (.int .i64 Xj.T) := by simp [World.cell?, hb0]
            have e1 : wr.cell? ⟨ga, 1, none⟩ = some (.int .i64 Xj.C) := by simp [World.cell?, hb0]
            have e2 : wr.cell? ⟨ga, 2, none⟩ = some (.slice bA bq bc) := by simp [World.cell?, hb0]
            have e3 : wr.cell? ⟨ga, 3, none⟩ = some (.int .u64 Xj.R) := by simp [World.cell?, hb0]
            have e4 : wr.cell? ⟨ga, 4, none⟩ = some (.slice bB Xj.n bb) := by simp [World.cell?, hb0]
            have e5 : wr.cell? ⟨ga, 5, none⟩ = some (.slice bC Xj.n bd) := by simp [World.cell?, hb0]
            go_wp2_with fail
            refine (hcon _ hbV).mono ?_
            clear hcon hcz
            rintro e w7 ⟨v_, rfl, hVc, hx_⟩
            obtain ⟨cA, cq, cc, cB, cb, cC, cd, rfl⟩ := hVc.form6
            replace hgr := Nat.le_trans hgr hx_.size
            clear e0 e1 e2 e3 e4 e5
            replace hb0 := heap_ext hb0 hx_
            replace hbV := hbV.ext hx_
            replace hown := hown.ext hx_
            replace hoH := hoH.ext hx_
            replace hWr := hWr.trans hx_
            clear hx_
            go_upto_region 17 with (fail)
            obtain ⟨hx_, hbc, hoc⟩ := two_boxes7 w7 (.cells #[.int .i64 Xj.T, .int .i64 Xj.C, .slice cA cq cc, .int .u64 Xj.R, .slice cB Xj.n cb, .slice cC Xj.n cd] 51) (.cells #[.int .i64 0, .bool false, .int .i64 0, .int .u64 0, .slice none 0 0] 37)
            generalize (w7.alloc (.cells #[.int .i64 Xj.T, .int .i64 Xj.C, .slice cA cq cc, .int .u64 Xj.R, .slice cB Xj.n cb, .slice cC Xj.n cd] 51)).alloc (.cells #[.int .i64 0, .bool false, .int .i64 0, .int .u64 0, .slice none 0 0] 37) = W7 at *
            have hgc := hgr
            replace hgr := Nat.le_trans hgr hx_.size
            generalize w7.heap.size = gc at *
            replace hb0 := heap_ext hb0 hx_
            replace hbV := hbV.ext hx_
            replace hown := hown.ext hx_
            replace hoH := hoH.ext hx_
            replace hVc := hVc.ext hx_
            replace hWr := hWr.trans hx_
            clear hx_
            go_upto_region 22 with (fail)
            have r0 : W7.cell? ⟨gc + 1, 0, none⟩ = some (.int .i64 0) := by simp [World.cell?, hoc]
            have r1 : W7.cell? ⟨gc + 1, 1, none⟩ = some (.bool false) := by simp [World.cell?, hoc]
            have r2 : W7.cell? ⟨gc + 1, 2, none⟩ = some (.int .i64 0) := by simp [World.cell?, hoc]
            have r3 : W7.cell? ⟨gc + 1, 3, none⟩ = some (.int .u64 0) := by simp [World.cell?, hoc]
            have r4 : W7.cell? ⟨gc + 1, 4, none⟩ = some (.slice none 0 0) := by simp [World.cell?, hoc]
            go_upto_region 24 with (fail)
            clear r0 r1 r2 r3 r4
            have nc : ¬ ga = gc := by omega
            have nc' : ¬ gc = ga := by omega
            have f0 : W7.cell? ⟨gc, 0, none⟩ = some (.int .i64 Xj.T) := by simp [World.cell?, hbc]
            have f1 : W7.cell? ⟨gc, 1, none⟩ = some (.int .i64 Xj.C) := by simp [World.cell?, hbc]
            have f2 : W7.cell? ⟨gc, 2, none⟩ = some (.slice cA cq cc) := by simp [World.cell?, hbc]
            have f3 : W7.cell? ⟨gc, 3, none⟩ = some (.int .u64 Xj.R) := by simp [World.cell?, hbc]
            have f4 : W7.cell? ⟨gc, 4, none⟩ = some (.slice cB Xj.n cb) := by simp [World.cell?, hbc]
            have f5 : W7.cell? ⟨gc, 5, none⟩ = some (.slice cC Xj.n cd) := by simp [World.cell?, hbc]
            have e0 : W7.cell? ⟨ga, 0, none⟩ = some (.int .i64 Xj.T) := by simp [World.cell?, hb0]
            have ef0 : W7.frozen? ⟨ga, 0, none⟩ = false := by simp [World.frozen?, hb0]
            have e1 : W7.cell? ⟨ga, 1, none⟩ = some (.int .i64 Xj.C) := by simp [World.cell?, hb0]
            have ef1 : W7.frozen? ⟨ga, 1, none⟩ = false := by simp [World.frozen?, hb0]
            have e2 : W7.cell? ⟨ga, 2, none⟩ = some (.slice bA bq bc) := by simp [World.cell?, hb0]
            have ef2 : W7.frozen? ⟨ga, 2, none⟩ = false := by simp [World.frozen?, hb0]
            have e3 : W7.cell? ⟨ga, 3, none⟩ = some (.int .u64 Xj.R) := by simp [World.cell?, hb0]
            have ef3 : W7.frozen? ⟨ga, 3, none⟩ = false := by simp [World.frozen?, hb0]
            have e4 : W7.cell? ⟨ga, 4, none⟩ = some (.slice bB Xj.n bb) := by simp [World.cell?, hb0]
            have ef4 : W7.frozen? ⟨ga, 4, none⟩ = false := by simp [World.frozen?, hb0]
            have e5 : W7.cell? ⟨ga, 5, none⟩ = some (.slice bC Xj.n bd) := by simp [World.cell?, hb0]
            have ef5 : W7.frozen? ⟨ga, 5, none⟩ = false := by simp [World.frozen?, hb0]
            go_wp2
            have hb0_ : ((((((W7.setCell ⟨ga, 0, none⟩ (.int .i64 Xj.T)).setCell ⟨ga, 1, none⟩ (.int .i64 Xj.C)).setCell ⟨ga, 2, none⟩ (.slice cA cq cc)).setCell ⟨ga, 3, none⟩ (.int .u64 Xj.R)).setCell ⟨ga, 4, none⟩ (.slice cB Xj.n cb)).setCell ⟨ga, 5, none⟩ (.slice cC Xj.n cd)).heap[ga]? = some (.cells #[.int .i64 Xj.T, .int .i64 Xj.C, .slice cA cq cc, .int .u64 Xj.R, .slice cB Xj.n cb, .slice cC Xj.n cd] 51 (0, 0)) := setAll_all (vs := [.int .i64 Xj.T, .int .i64 Xj.C, .slice cA cq cc, .int .u64 Xj.R, .slice cB Xj.n cb, .slice cC Xj.n cd]) hb0 rfl
            have hWs_ : Ext w ((((((W7.setCell ⟨ga, 0, none⟩ (.int .i64 Xj.T)).setCell ⟨ga, 1, none⟩ (.int .i64 Xj.C)).setCell ⟨ga, 2, none⟩ (.slice cA cq cc)).setCell ⟨ga, 3, none⟩ (.int .u64 Xj.R)).setCell ⟨ga, 4, none⟩ (.slice cB Xj.n cb)).setCell ⟨ga, 5, none⟩ (.slice cC Xj.n cd)) := setAll_ext (g := ga) (vs := [.int .i64 Xj.T, .int .i64 Xj.C, .slice cA cq cc, .int .u64 Xj.R, .slice cB Xj.n cb, .slice cC Xj.n cd]) (i := 0) hWr hls
            have hk_ : ∀ g, g ≠ ga → ((((((W7.setCell ⟨ga, 0, none⟩ (.int .i64 Xj.T)).setCell ⟨ga, 1, none⟩ (.int .i64 Xj.C)).setCell ⟨ga, 2, none⟩ (.slice cA cq cc)).setCell ⟨ga, 3, none⟩ (.int .u64 Xj.R)).setCell ⟨ga, 4, none⟩ (.slice cB Xj.n cb)).setCell ⟨ga, 5, none⟩ (.slice cC Xj.n cd)).heap[g]? = W7.heap[g]? := fun g hg => setAll_other (g := ga) (k := g) hg [.int .i64 Xj.T, .int .i64 Xj.C, .slice cA cq cc, .int .u64 Xj.R, .slice cB Xj.n cb, .slice cC Xj.n cd] 0 W7
            have hVc_ := hVc.but hk1.2.2 (But.all ga [.int .i64 Xj.T, .int .i64 Xj.C, .slice cA cq cc, .int .u64 Xj.R, .slice cB Xj.n cb, .slice cC Xj.n cd] 0 W7) hb0 rfl
            change WldV ((((((W7.setCell ⟨ga, 0, none⟩ (.int .i64 Xj.T)).setCell ⟨ga, 1, none⟩ (.int .i64 Xj.C)).setCell ⟨ga, 2, none⟩ (.slice cA cq cc)).setCell ⟨ga, 3, none⟩ (.int .u64 Xj.R)).setCell ⟨ga, 4, none⟩ (.slice cB Xj.n cb)).setCell ⟨ga, 5, none⟩ (.slice cC Xj.n cd)) _ _ at hVc_
            have hsz_ : ((((((W7.setCell ⟨ga, 0, none⟩ (.int .i64 Xj.T)).setCell ⟨ga, 1, none⟩ (.int .i64 Xj.C)).setCell ⟨ga, 2, none⟩ (.slice cA cq cc)).setCell ⟨ga, 3, none⟩ (.int .u64 Xj.R)).setCell ⟨ga, 4, none⟩ (.slice cB Xj.n cb)).setCell ⟨ga, 5, none⟩ (.slice cC Xj.n cd)).heap.size = W7.heap.size := by simp [World.setCell]
            have hown_ := hown.kept (w' := ((((((W7.setCell ⟨ga, 0, none⟩ (.int .i64 Xj.T)).setCell ⟨ga, 1, none⟩ (.int .i64 Xj.C)).setCell ⟨ga, 2, none⟩ (.slice cA cq cc)).setCell ⟨ga, 3, none⟩ (.int .u64 Xj.R)).setCell ⟨ga, 4, none⟩ (.slice cB Xj.n cb)).setCell ⟨ga, 5, none⟩ (.slice cC Xj.n cd))) (fun g o hb hv ho => (hk_ g (by omega)).trans ho)
            have hoH_ := hoH.kept (w' := ((((((W7.setCell ⟨ga, 0, none⟩ (.int .i64 Xj.T)).setCell ⟨ga, 1, none⟩ (.int .i64 Xj.C)).setCell ⟨ga, 2, none⟩ (.slice cA cq cc)).setCell ⟨ga, 3, none⟩ (.int .u64 Xj.R)).setCell ⟨ga, 4, none⟩ (.slice cB Xj.n cb)).setCell ⟨ga, 5, none⟩ (.slice cC Xj.n cd))) (fun g o hb hv ho => (hk_ g (by omega)).trans ho)
            have hgr_ : gs ≤ ((((((W7.setCell ⟨ga, 0, none⟩ (.int .i64 Xj.T)).setCell ⟨ga, 1, none⟩ (.int .i64 Xj.C)).setCell ⟨ga, 2, none⟩ (.slice cA cq cc)).setCell ⟨ga, 3, none⟩ (.int .u64 Xj.R)).setCell ⟨ga, 4, none⟩ (.slice cB Xj.n cb)).setCell ⟨ga, 5, none⟩ (.slice cC Xj.n cd)).heap.size := by rw [hsz_]; exact hgr
            clear hk_ hsz_ hown hoH hgr hoc hb0 hVc hWr hbc hbV f0 f1 f2 f3 f4 f5 e0 e1 e2 e3 e4 e5 ef0 ef1 ef2 ef3 ef4 ef5
            generalize ((((((W7.setCell ⟨ga, 0, none⟩ (.int .i64 Xj.T)).setCell ⟨ga, 1, none⟩ (.int .i64 Xj.C)).setCell ⟨ga, 2, none⟩ (.slice cA cq cc)).setCell ⟨ga, 3, none⟩ (.int .u64 Xj.R)).setCell ⟨ga, 4, none⟩ (.slice cB Xj.n cb)).setCell ⟨ga, 5, none⟩ (.slice cC Xj.n cd)) = wg at *
            go_roundw
            case rel => exact ⟨j + 1, Xj, [], held, by go_num, by omega, ⟨_, hb0_, hVc_⟩, hp1, hk1, hhk1, hown_, hoH_, hne, hWs_, hgr_⟩
            case measure => simp [intOf]; omega
          · have hpp := pop_pool hpj
            obtain ⟨hxx, hx1, hxN, -⟩ := hpj.chain
            have hk1 := hkj.popW 1 (x :: pl)
            have hcon := fun W => pal_pop Xj 1 N (x :: pl) hpj hkj (.agg #[.int .i64 Xj.T, .int .i64 Xj.C, .slice bA bq bc, .int .u64 Xj.R, .slice bB Xj.n bb, .slice bC Xj.n bd]) 0 0 0 0 3 3 rfl (by omega) (by omega) W
            rw [show (x :: pl).headD 0 = x from rfl] at hcon
            rw [show popW Xj 1 (x :: pl) = popX Xj 1 from rfl] at hcon hk1
            generalize popX Xj 1 = X1 at *
            obtain ⟨hp1, -⟩ := hpp
            have hhk1 := hhk.pop ⟨hx1, hxN⟩
            have hlx : (x :: pl).reverse[pl.length]? = some x := by simp
            have hdl : (x :: pl).reverse.dropLast = pl.reverse := by simp
            rw [show (x :: pl).length = pl.length + 1 from rfl] at *
            obtain ⟨n1, hn1⟩ : ∃ n1, pl.length = n1 := ⟨_, rfl⟩
            rw [hn1] at hlx hown hlp1 hpN hhN ⊢
            generalize (x :: pl).reverse = prow at *
            obtain ⟨g1, c1, e1, hg1, -, -, hcl⟩ := hown.at hlx
            cases e1
            have hnI : ((n1 + 1 : Nat) : Int) - 1 = (n1 : Int) := by omega
            have hhI : (0 : Int) < ((n1 + 1 : Nat) : Int) := by omega
            have hnL : (n1 : Int) < ((n1 + 1 : Nat) : Int) := by omega
            have hnc : (n1 : Int) ≤ (pc : Int) := by omega
            have hn0 : (0 : Int) ≤ (n1 : Int) := by omega
            have hne2 : ∀ g, (Value.slice hvB held.length hvc).ownBlock = some g → g ≠ g1 := fun g hg e => hne g hg (by rw [e]; rfl)
            obtain ⟨n2, hn2⟩ : ∃ n2, n2 = n1 + 1 := ⟨_, rfl⟩
            rw [← hn2] at hown hlp1 hpN hhN hnI hhI hnL ⊢
            have HN1 := Lib.hid hn1
            have HN2 := Lib.hid hn2
            have HDL := Lib.hid hdl
            clear hxx hn1 hn2 hlx hdl
            have e0 : wr.cell? ⟨ga, 0, none⟩ = some (.int .i64 Xj.T) := by simp [World.cell?, hb0]
            have e1 : wr.cell? ⟨ga, 1, none⟩ = some (.int .i64 Xj.C) := by simp [World.cell?, hb0]
            have e2 : wr.cell? ⟨ga, 2, none⟩ = some (.slice bA bq bc) := by simp [World.cell?, hb0]
            have e3 : wr.cell? ⟨ga, 3, none⟩ = some (.int .u64 Xj.R) := by simp [World.cell?, hb0]
            have e4 : wr.cell? ⟨ga, 4, none⟩ = some (.slice bB Xj.n bb) := by simp [World.cell?, hb0]
            have e5 : wr.cell? ⟨ga, 5, none⟩ = some (.slice bC Xj.n bd) := by simp [World.cell?, hb0]
            go_wp2_with fail
            refine (hcon _ hbV).mono ?_
            clear hcon hcz
            rintro e w7 ⟨v_, rfl, hVc, hx_⟩
            obtain ⟨cA, cq, cc, cB, cb, cC, cd, rfl⟩ := hVc.form6
            replace hgr := Nat.le_trans hgr hx_.size
            replace hcl := hx_.cell hcl
            clear e0 e1 e2 e3 e4 e5
            replace hb0 := heap_ext hb0 hx_
            replace hbV := hbV.ext hx_
            replace hown := hown.ext hx_
            replace hoH := hoH.ext hx_
            replace hWr := hWr.trans hx_
            clear hx_
            go_upto_region 17 with (fail)
            obtain ⟨hx_, hbc, hoc⟩ := two_boxes7 w7 (.cells #[.int .i64 X1.T, .int .i64 X1.C, .slice cA cq cc, .int .u64 X1.R, .slice cB X1.n cb, .slice cC X1.n cd] 51) (.cells #[.int .i64 0, .bool false, .int .i64 x, .int .u64 0, .slice none 0 0] 37)
            generalize (w7.alloc (.cells #[.int .i64 X1.T, .int .i64 X1.C, .slice cA cq cc, .int .u64 X1.R, .slice cB X1.n cb, .slice cC X1.n cd] 51)).alloc (.cells #[.int .i64 0, .bool false, .int .i64 x, .int .u64 0, .slice none 0 0] 37) = W7 at *
            have hgc := hgr
            replace hgr := Nat.le_trans hgr hx_.size
            replace hcl := hx_.cell hcl
            generalize w7.heap.size = gc at *
            replace hb0 := heap_ext hb0 hx_
            replace hbV := hbV.ext hx_
            replace hown := hown.ext hx_
            replace hoH := hoH.ext hx_
            replace hVc := hVc.ext hx_
            replace hWr := hWr.trans hx_
            clear hx_
            have hWn : Ext W7 (W7.alloc (.cells #[.int .i64 x] 3)) := (Below.refl _ W7).alloc (Nat.le_refl _) _
            have hcn : ∀ (i : Nat) (u : Value), (intCells [x])[i]? = some u → (W7.alloc (.cells #[.int .i64 x] 3)).cell? ((⟨W7.heap.size, 0, none⟩ : Addr).add i) = some u := heap_cells (heap_alloc_new W7 _)
            have hoH2 := hoH.ext hWn
            go_upto_region 22 with (at_builtin; go_loud (refine wpList_append_int rfl (.tmp 80) (.tmp 82) _ rfl gs i0 Try.underlying35 hi0 hz0 hz1 hz2 _ held.length held rfl hoH2 ⟨W7.heap.size, 0, none⟩ 1 1 [x] rfl (by intro _; omega) rfl hcn (by omega) (Nat.le_trans hgr hWn.size) ?_); intro v2 w8 hown5 hg5 hob5)
            have hszw : g1 < W7.heap.size := (hown.lt (k := g1) rfl).2
            have hW5 := grownI_ext hoH2 hg5 (hWr.trans hWn) hls2
            have hb5 := grownI_heap hoH2 hg5 (hoH2.low hlg) (heap_ext hb0 hWn)
            have hb6 := grownI_heap hoH2 hg5 (hoH2.ne_box (heap_ext hbc hWn) (by decide)) (heap_ext hbc hWn)
            have hb7 := grownI_heap hoH2 hg5 (hoH2.ne_box (heap_ext hoc hWn) (by decide)) (heap_ext hoc hWn)
            have hV5 := WldV.grownI hoH2 hg5 (hbV.ext hWn) hkj.2.2
            have hV6 := WldV.grownI hoH2 hg5 (hVc.ext hWn) hk1.2.2
            have hown6 := (hown.ext hWn).grown hg5 (fun g hg h2 => by
              simp only [Value.ownBlock] at hg
              injection hg with hg
              subst hg
              exact hne2 _ h2 rfl)
            rw [HN2.out] at hown6
            have hown7 := hown6.pop
            rw [HDL.out] at hown7
            have hne5 : ∀ g, v2.ownBlock = some g → (Value.slice (some ⟨g1, 0, none⟩) n1 pc).ownBlock ≠ some g := fun g hg h2 => by
              simp only [Value.ownBlock] at h2
              injection h2 with h2
              subst h2
              rcases hob5 with h3 | h3
              · exact hne2 _ (h3.symm.trans hg) rfl
              · rw [h3] at hg; injection hg with hg; have := hWn.size; omega
            have hgr5 : gs ≤ w8.heap.size := Nat.le_trans hgr (Nat.le_trans hWn.size hg5.size)
            clear hoH2 hg5 hob5 hcn hWn hoH hown hown6 hb0 hbV hVc hgr hbc hoc hcl hne hne2 hszw hWr
            have hown := hown7
            have hoH := hown5
            have hb0 := hb5
            have hbc := hb6
            have hoc := hb7
            have hbV := hV5
            have hVc := hV6
            have hWr := hW5
            have hgr := hgr5
            clear hown7 hown5 hb5 hb6 hb7 hV5 hV6 hW5 hgr5
            have r0 : w8.cell? ⟨gc + 1, 0, none⟩ = some (.int .i64 0) := by simp [World.cell?, hoc]
            have r1 : w8.cell? ⟨gc + 1, 1, none⟩ = some (.bool false) := by simp [World.cell?, hoc]
            have r2 : w8.cell? ⟨gc + 1, 2, none⟩ = some (.int .i64 x) := by simp [World.cell?, hoc]
            have r3 : w8.cell? ⟨gc + 1, 3, none⟩ = some (.int .u64 0) := by simp [World.cell?, hoc]
            have r4 : w8.cell? ⟨gc + 1, 4, none⟩ = some (.slice none 0 0) := by simp [World.cell?, hoc]
            go_upto_region 24 with (fail)
            clear r0 r1 r2 r3 r4
            have nc : ¬ ga = gc := by omega
            have nc' : ¬ gc = ga := by omega
            have f0 : w8.cell? ⟨gc, 0, none⟩ = some (.int .i64 X1.T) := by simp [World.cell?, hbc]
            have f1 : w8.cell? ⟨gc, 1, none⟩ = some (.int .i64 X1.C) := by simp [World.cell?, hbc]
            have f2 : w8.cell? ⟨gc, 2, none⟩ = some (.slice cA cq cc) := by simp [World.cell?, hbc]
            have f3 : w8.cell? ⟨gc, 3, none⟩ = some (.int .u64 X1.R) := by simp [World.cell?, hbc]
            have f4 : w8.cell? ⟨gc, 4, none⟩ = some (.slice cB X1.n cb) := by simp [World.cell?, hbc]
            have f5 : w8.cell? ⟨gc, 5, none⟩ = some (.slice cC X1.n cd) := by simp [World.cell?, hbc]
            have e0 : w8.cell? ⟨ga, 0, none⟩ = some (.int .i64 Xj.T) := by simp [World.cell?, hb0]
            have ef0 : w8.frozen? ⟨ga, 0, none⟩ = false := by simp [World.frozen?, hb0]
            have e1 : w8.cell? ⟨ga, 1, none⟩ = some (.int .i64 Xj.C) := by simp [World.cell?, hb0]
            have ef1 : w8.frozen? ⟨ga, 1, none⟩ = false := by simp [World.frozen?, hb0]
            have e2 : w8.cell? ⟨ga, 2, none⟩ = some (.slice bA bq bc) := by simp [World.cell?, hb0]
            have ef2 : w8.frozen? ⟨ga, 2, none⟩ = false := by simp [World.frozen?, hb0]
            have e3 : w8.cell? ⟨ga, 3, none⟩ = some (.int .u64 Xj.R) := by simp [World.cell?, hb0]
            have ef3 : w8.frozen? ⟨ga, 3, none⟩ = false := by simp [World.frozen?, hb0]
            have e4 : w8.cell? ⟨ga, 4, none⟩ = some (.slice bB Xj.n bb) := by simp [World.cell?, hb0]
            have ef4 : w8.frozen? ⟨ga, 4, none⟩ = false := by simp [World.frozen?, hb0]
            have e5 : w8.cell? ⟨ga, 5, none⟩ = some (.slice bC Xj.n bd) := by simp [World.cell?, hb0]
            have ef5 : w8.frozen? ⟨ga, 5, none⟩ = false := by simp [World.frozen?, hb0]
            go_wp2
            have hb0_ : ((((((w8.setCell ⟨ga, 0, none⟩ (.int .i64 X1.T)).setCell ⟨ga, 1, none⟩ (.int .i64 X1.C)).setCell ⟨ga, 2, none⟩ (.slice cA cq cc)).setCell ⟨ga, 3, none⟩ (.int .u64 X1.R)).setCell ⟨ga, 4, none⟩ (.slice cB X1.n cb)).setCell ⟨ga, 5, none⟩ (.slice cC X1.n cd)).heap[ga]? = some (.cells #[.int .i64 X1.T, .int .i64 X1.C, .slice cA cq cc, .int .u64 X1.R, .slice cB X1.n cb, .slice cC X1.n cd] 51 (0, 0)) := setAll_all (vs := [.int .i64 X1.T, .int .i64 X1.C, .slice cA cq cc, .int .u64 X1.R, .slice cB X1.n cb, .slice cC X1.n cd]) hb0 rfl
            have hWs_ : Ext w ((((((w8.setCell ⟨ga, 0, none⟩ (.int .i64 X1.T)).setCell ⟨ga, 1, none⟩ (.int .i64 X1.C)).setCell ⟨ga, 2, none⟩ (.slice cA cq cc)).setCell ⟨ga, 3, none⟩ (.int .u64 X1.R)).setCell ⟨ga, 4, none⟩ (.slice cB X1.n cb)).setCell ⟨ga, 5, none⟩ (.slice cC X1.n cd)) := setAll_ext (g := ga) (vs := [.int .i64 X1.T, .int .i64 X1.C, .slice cA cq cc, .int .u64 X1.R, .slice cB X1.n cb, .slice cC X1.n cd]) (i := 0) hWr hls
            have hk_ : ∀ g, g ≠ ga → ((((((w8.setCell ⟨ga, 0, none⟩ (.int .i64 X1.T)).setCell ⟨ga, 1, none⟩ (.int .i64 X1.C)).setCell ⟨ga, 2, none⟩ (.slice cA cq cc)).setCell ⟨ga, 3, none⟩ (.int .u64 X1.R)).setCell ⟨ga, 4, none⟩ (.slice cB X1.n cb)).setCell ⟨ga, 5, none⟩ (.slice cC X1.n cd)).heap[g]? = w8.heap[g]? := fun g hg => setAll_other (g := ga) (k := g) hg [.int .i64 X1.T, .int .i64 X1.C, .slice cA cq cc, .int .u64 X1.R, .slice cB X1.n cb, .slice cC X1.n cd] 0 w8
            have hVc_ := hVc.but hk1.2.2 (But.all ga [.int .i64 X1.T, .int .i64 X1.C, .slice cA cq cc, .int .u64 X1.R, .slice cB X1.n cb, .slice cC X1.n cd] 0 w8) hb0 rfl
            change WldV ((((((w8.setCell ⟨ga, 0, none⟩ (.int .i64 X1.T)).setCell ⟨ga, 1, none⟩ (.int .i64 X1.C)).setCell ⟨ga, 2, none⟩ (.slice cA cq cc)).setCell ⟨ga, 3, none⟩ (.int .u64 X1.R)).setCell ⟨ga, 4, none⟩ (.slice cB X1.n cb)).setCell ⟨ga, 5, none⟩ (.slice cC X1.n cd)) _ _ at hVc_
            have hsz_ : ((((((w8.setCell ⟨ga, 0, none⟩ (.int .i64 X1.T)).setCell ⟨ga, 1, none⟩ (.int .i64 X1.C)).setCell ⟨ga, 2, none⟩ (.slice cA cq cc)).setCell ⟨ga, 3, none⟩ (.int .u64 X1.R)).setCell ⟨ga, 4, none⟩ (.slice cB X1.n cb)).setCell ⟨ga, 5, none⟩ (.slice cC X1.n cd)).heap.size = w8.heap.size := by simp [World.setCell]
            have hown_ := hown.kept (w' := ((((((w8.setCell ⟨ga, 0, none⟩ (.int .i64 X1.T)).setCell ⟨ga, 1, none⟩ (.int .i64 X1.C)).setCell ⟨ga, 2, none⟩ (.slice cA cq cc)).setCell ⟨ga, 3, none⟩ (.int .u64 X1.R)).setCell ⟨ga, 4, none⟩ (.slice cB X1.n cb)).setCell ⟨ga, 5, none⟩ (.slice cC X1.n cd))) (fun g o hb hv ho => (hk_ g (by omega)).trans ho)
            have hoH_ := hoH.kept (w' := ((((((w8.setCell ⟨ga, 0, none⟩ (.int .i64 X1.T)).setCell ⟨ga, 1, none⟩ (.int .i64 X1.C)).setCell ⟨ga, 2, none⟩ (.slice cA cq cc)).setCell ⟨ga, 3, none⟩ (.int .u64 X1.R)).setCell ⟨ga, 4, none⟩ (.slice cB X1.n cb)).setCell ⟨ga, 5, none⟩ (.slice cC X1.n cd))) (fun g o hb hv ho => (hk_ g (by omega)).trans ho)
            have hgr_ : gs ≤ ((((((w8.setCell ⟨ga, 0, none⟩ (.int .i64 X1.T)).setCell ⟨ga, 1, none⟩ (.int .i64 X1.C)).setCell ⟨ga, 2, none⟩ (.slice cA cq cc)).setCell ⟨ga, 3, none⟩ (.int .u64 X1.R)).setCell ⟨ga, 4, none⟩ (.slice cB X1.n cb)).setCell ⟨ga, 5, none⟩ (.slice cC X1.n cd)).heap.size := by rw [hsz_]; exact hgr
            clear hk_ hsz_ hown hoH hgr hoc hb0 hVc hWr hbc hbV f0 f1 f2 f3 f4 f5 e0 e1 e2 e3 e4 e5 ef0 ef1 ef2 ef3 ef4 ef5
            generalize ((((((w8.setCell ⟨ga, 0, none⟩ (.int .i64 X1.T)).setCell ⟨ga, 1, none⟩ (.int .i64 X1.C)).setCell ⟨ga, 2, none⟩ (.slice cA cq cc)).setCell ⟨ga, 3, none⟩ (.int .u64 X1.R)).setCell ⟨ga, 4, none⟩ (.slice cB X1.n cb)).setCell ⟨ga, 5, none⟩ (.slice cC X1.n cd)) = wg at *
            go_roundw
            case rel => exact ⟨j + 1, X1, pl, held ++ [x], by go_num, by omega, ⟨_, hb0_, hVc_⟩, hp1, hk1, hhk1, by rw [HN1.out]; exact hown_, by simpa using hoH_, hne5, hWs_, hgr_⟩
            case measure => simp [intOf]; omega
set_option maxRecDepth 100000 in
theorem PoolAlone_lifted (os : Os) (started : os.Started) (H : Type) (enc : TypeId × Value → H) :
    ReturnsInHanded {} Try.checked os 4 .any (Rows.poolAloneSpec.pre6 enc Try.prog Try.f4 Rows.poolAloneRow.domain false) (Rows.poolAloneSpec.post enc Try.prog Try.f4 false true false false) := by
  refine law_row os started H enc Rows.poolAloneSpec rfl (fun ds h => by
    match ds, h with
    | [_, _], _ => rfl) (by kernel_rfl) Try.func4 rfl
    (by rw [Try.params4]; intro t ht; simp at ht; rcases ht with rfl | rfl <;> exact ⟨by kernel_rfl, of_decide_eq_true (by kernel_rfl)⟩)
    (ChangeSpec.witness6 (enc := enc) (C := Try.checked) false ⟨#[], #[.int .u8 0, .slice none 0 0], []⟩ 8 (by kernel_rfl) (by kernel_rfl) (by kernel_rfl) (by kernel_rfl)) ?_
  intro W base args ds ps hval hA hlt
  rw [Try.params4] at hA hval
  obtain ⟨v0, v1, d0, d1, p0, p1, rfl, rfl, rfl, h0, h1⟩ := trodAll_two hA
  obtain ⟨t, rfl, rfl, rfl, w1⟩ := open_int Try.underlying5 (hval 0 _ v0 rfl rfl) h0
  obtain ⟨M, m, mc, ms, rfl, hM⟩ := open_bytes1 (hval 1 _ v1 rfl rfl) h1
  have b1 := wf_u8 w1
  obtain ⟨tn, rfl⟩ := Int.eq_ofNat_of_zero_le b1.1
  exact palone_walk tn (by omega) M m mc ms W hM
theorem PoolAlone_holds : Rows.PoolAloneSaid :=
  OpenClaim.holds_of_wide 4 Try.f4 rfl rfl rfl rfl rfl rfl rfl ⟨rfl, rfl, rfl, rfl, rfl⟩ rfl rfl rfl rfl rfl (by kernel_rfl) Try.func4 (by kernel_rfl)
    (of_decide_eq_true (by kernel_rfl)) (by unfold Func.isWrapper; rw [if_neg (of_decide_eq_false (by kernel_rfl))]; exact ⟨rfl, rfl⟩)
    (fun os started H enc _ => PoolAlone_lifted os started H enc)
#print axioms PoolAlone_holds
end Go.Proofs.Ytkdjmfaodojmfaa
