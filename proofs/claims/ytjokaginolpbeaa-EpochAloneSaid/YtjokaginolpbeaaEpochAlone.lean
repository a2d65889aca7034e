/- Proved: the law EpochAlone (stepping alone, where no other thread is pinned, each record that is free, or retired, is handed out, before none is; and one that is had is not) returns true at every input and turns none of its arguments. No condition. -/
import Derived.Test.YtjokaginolpbeaaEpochAlonePartG
import Derived.Test.YtjokaginolpbeaaEpochAlonePartE
namespace Go.Proofs.Ytjokaginolpbeaa
open Go.ChangeShapes Go.WideShapes Go.ChangeAt Go.RowKit

set_option maxRecDepth 100000 in
set_option maxHeartbeats 20000000 in
theorem ealonelaw_walk (cn : Nat) (hcn : cn < 256) (M : Option Addr) (m mc : Nat) (ms : List UInt8) (w : World) (hM : BytesV w M m mc ms) :
    Calls Try.prog 4 #[.int .u8 cn, .slice M m mc] w fun e w' => e = .returned (.bool true) ∧ Ext w w' := by
  have hmk := Nat.le_trans hM.le hM.cap
  simp only [maxLen] at hmk
  obtain ⟨i0, hi0, hz0, hz1, hz2⟩ := info_parts info_i64
  have hr1 : ∀ (W : World) (a : Int), (Instr.buildSlice 35 1 #[(0, .int .i64 a)]).run Try.prog W = .ok (.slice (some ⟨W.heap.size, 0, none⟩) 1 1) (W.alloc (.cells #[.int .i64 a] 3)) := fun _ _ => by kernel_rfl
  have hr0 : ∀ (W : World), (Instr.buildSlice 35 0 #[]).run Try.prog W = .ok (.slice (some ⟨W.heap.size, 0, none⟩) 0 0) (W.alloc (.cells #[] 3)) := fun _ => by kernel_rfl
  have hb6 : ∀ (W : World), (Instr.build 24 #[(0, .int .i64 6)]).run Try.prog W = .ok (.agg #[.int .i64 6, .int .i64 0, .int .i64 0, .int .u64 0]) W := fun _ => by kernel_rfl
  have hb4 : ∀ (W : World), (Instr.build 24 #[(0, .int .i64 4)]).run Try.prog W = .ok (.agg #[.int .i64 4, .int .i64 0, .int .i64 0, .int .u64 0]) W := fun _ => by kernel_rfl
  have hb5 : ∀ (W : World) (x : Int), (Instr.build 24 #[(0, .int .i64 5), (1, .int .i64 x)]).run Try.prog W = .ok (.agg #[.int .i64 5, .int .i64 x, .int .i64 0, .int .u64 0]) W := fun _ _ => by kernel_rfl
  have q1 : IntKind.i64.wrap (cn : Int) = (cn : Int) := by rw [IntKind.wrap_i64]; omega
  have q2 : Int.tmod (cn : Int) 9 = (cn : Int) % 9 := by rw [Int.tmod_eq_emod_of_nonneg (by omega)]
  have q3 : IntKind.i64.wrap ((cn : Int) % 9) = (cn : Int) % 9 := by rw [IntKind.wrap_i64]; omega
  have q4 : (cn : Int) % 9 = ((cn % 9 : Nat) : Int) := by omega
  have hN : cn % 9 ≤ 8 := by omega
  generalize cn % 9 = N at *
  have hnew := fun W => ranew_yes 3 N (by omega) (by omega) (by omega) W
  have hp0 := newS_k (t := 3) (c := N) (by omega) (by omega) (by omega)
  have hk0 := new_wok (t := 3) (c := N) (by omega) (by omega) (by omega)
  have hs0 : (newS N).e ≤ 3 * 0 := Nat.le_refl _
  have hz0' : ∀ i, i < 3 → (newS N).P i = 0 := fun _ _ => rfl
  have hh0 := newS_he N
  generalize newW 3 N = X0 at *
  generalize newS N = S0 at *
  go_enter Try.func4, Try.ntmps4
  go_wp2_with fail
  refine (shown13_any _).mono ?_
  rintro e w1 ⟨rfl, hW⟩
  rcases (Decidable.em (m ≤ 40)).symm with h6 | h6
  · have h6' : (40 : Int) < (m : Int) := by omega
    go_wp2
    go_ret
    exact ⟨rfl, hW⟩
  have h6' : ¬ (40 : Int) < (m : Int) := by omega
  go_wp2_with fail
  refine (hnew _).mono ?_
  rintro e w_a ⟨v_, rfl, hVa, hx_⟩
  obtain ⟨aA, aq, ac, aB, ab, aC, ad, rfl⟩ := hVa.form6
  replace hW := hW.trans hx_
  clear hx_
  go_upto_region 6 with (fail)
  have hx_ : Ext w_a (w_a.alloc (.cells #[.int .i64 X0.T, .int .i64 X0.C, .slice aA aq ac, .int .u64 X0.R, .slice aB X0.n ab, .slice aC X0.n ad] 51)) := (Below.refl _ w_a).alloc (Nat.le_refl _) _
  have hba := heap_alloc_new w_a (.cells #[.int .i64 X0.T, .int .i64 X0.C, .slice aA aq ac, .int .u64 X0.R, .slice aB X0.n ab, .slice aC X0.n ad] 51)
  generalize w_a.alloc (.cells #[.int .i64 X0.T, .int .i64 X0.C, .slice aA aq ac, .int .u64 X0.R, .slice aB X0.n ab, .slice aC X0.n ad] 51) = W3 at *
  have hls := hW.size
  generalize w_a.heap.size = ga at *
  replace hVa := hVa.ext hx_
  replace hW := hW.trans hx_
  clear hx_
  have hbx : BoxW W3 ga X0 := ⟨_, hba, hVa⟩
  obtain ⟨gs, hgs⟩ : ∃ gs, gs = W3.heap.size := ⟨_, rfl⟩
  have hlg : ga < gs := by rw [hgs]; exact (Array.getElem?_eq_some_iff.1 hba).1
  have hgr : gs ≤ W3.heap.size := Nat.le_of_eq hgs
  have hls2 : w.heap.size ≤ gs := by omega
  clear hba hVa hgs hnew q1 q2 q3
  go_wp2
  go_loopw [8, 9] (fun hv iv wr => ∃ (j : Nat) (Xj : WldK) (S : EpS) (held : List Int), iv = .int .i64 (j : Int) ∧ j ≤ m ∧ BoxW wr ga Xj ∧ EpK Xj 3 N S ∧ WOk Xj ∧ HE N S held ∧ S.e ≤ 3 * j ∧ (∀ i, i < 3 → S.P i = 0) ∧ IntOwn wr gs hv held.length held ∧ Ext w wr ∧ gs ≤ wr.heap.size) (fun _ iv _ => m - (intOf iv).toNat)
  case atStart => exact ⟨0, X0, S0, [], rfl, Nat.zero_le _, hbx, hp0, hk0, hh0, hs0, hz0', IntOwn.nil _ _, hW, hgr⟩
  case round =>
    clear hp0 hk0 hh0 hs0 hz0' hW hbx hgr
    obtain ⟨j, Xj, S, held, rfl, hj, hbx, hpj, hkj, hhe, hse, hsz, hoH, hWr, hgr⟩ := hrel
    obtain ⟨bA, bq, bc, bB, bb, bC, bd, hb0, hbV⟩ := hbx.form
    obtain ⟨hvB, hvc, rfl, -, -, -, hle1, hle2⟩ := hoH.form
    have hhN := hhe.len
    simp only [maxLen] at hle2
    clear hbx
    rcases (Nat.lt_or_ge j m).symm with hjm | hjm
    · obtain rfl : j = m := by omega
      have hjI : ¬ (j : Int) < (j : Int) := by omega
      go_wp2
      go_ret
      exact ⟨rfl, hWr⟩
    have hjI : (j : Int) < (m : Int) := by omega
    obtain ⟨ad, z, rfl, hcz, hzz⟩ := bytes_cell (hM.ext hWr) hjm
    have hy2 : Int.tmod (z : Int) 2 = (z : Int) % 2 := by rw [Int.tmod_eq_emod_of_nonneg (by omega)]
    have hy3 : IntKind.u8.wrap ((z : Int) % 2) = (z : Int) % 2 := by rw [IntKind.wrap_u8]; omega
    have hy4 : IntKind.i64.wrap (z : Int) = (z : Int) := by rw [IntKind.wrap_i64]; omega
    have hy5 : Int.tdiv (z : Int) 2 = (z : Int) / 2 := by rw [Int.tdiv_eq_ediv_of_nonneg (by omega)]
    have hy6 : IntKind.i64.wrap ((z : Int) / 2) = (z : Int) / 2 := by rw [IntKind.wrap_i64]; omega
    obtain ⟨me, hme, hme2⟩ : ∃ me : Nat, me < 3 ∧ Int.tmod ((z : Int) / 2) 3 = (me : Int) := ⟨z / 2 % 3, by omega, by rw [Int.tmod_eq_emod_of_nonneg (by omega)]; omega⟩
    have hy7 : IntKind.i64.wrap (me : Int) = (me : Int) := by rw [IntKind.wrap_i64]; omega
    have hway : (¬ (z : Int) % 2 = 0 ∧ 0 < held.length) ∨ ((z : Int) % 2 = 0) ∨ (¬ (z : Int) % 2 = 0 ∧ held.length = 0) := by omega
    rcases hway with ⟨hy1, hh1⟩ | hy1 | ⟨hy1, hh1⟩
    · have hyB : ((z : Int) % 2 == 0) = false := beq_eq_false_iff_ne.2 hy1
      have hy8 : Int.tdiv (z : Int) 6 = (z : Int) / 6 := by rw [Int.tdiv_eq_ediv_of_nonneg (by omega)]
      have hy9 : IntKind.i64.wrap ((z : Int) / 6) = (z : Int) / 6 := by rw [IntKind.wrap_i64]; omega
      have hy10 : Int.tmod ((z : Int) / 6) (held.length : Int) = ((z / 6 % held.length : Nat) : Int) := by
        rw [Int.tmod_eq_emod_of_nonneg (by omega)]; simp
      have hkn : z / 6 % held.length < held.length := Nat.mod_lt _ hh1
      obtain ⟨k, hk⟩ : ∃ k, z / 6 % held.length = k := ⟨_, rfl⟩
      rw [hk] at hy10 hkn
      have hy11 : IntKind.i64.wrap (k : Int) = (k : Int) := by rw [IntKind.wrap_i64]; omega
      have hl0 : ¬ (held.length : Int) = 0 := by omega
      have hlB : ((held.length : Int) == 0) = false := beq_eq_false_iff_ne.2 hl0
      clear hk
      obtain ⟨x, hx⟩ : ∃ x, held[k]? = some x := ⟨_, List.getElem?_eq_getElem hkn⟩
      have hspl := list_cut hx
      obtain ⟨hhe1, hxn, hx1, hxN⟩ := HE.back (h1 := held.take k) (h2 := held.drop (k + 1)) (by rw [← hspl]; exact hhe)
      obtain ⟨xn, rfl⟩ := Int.eq_ofNat_of_zero_le (show 0 ≤ x by omega)
      obtain ⟨hkl1, hkl2, -⟩ := cut_len hkn
      obtain ⟨X1, hp1, hk1, hcon⟩ := eal_retire hpj hkj hme (x := xn) (by omega) (by omega) hxn 9 (by omega) (by omega)
      rw [show (((9 : Nat) : Int)) = 9 from rfl] at hcon
      have hse1 : (S.retire (xn : Int)).e ≤ 3 * (j + 1) := Nat.le_trans hse (by omega)
      have hsz1 : ∀ i, i < 3 → (S.retire (xn : Int)).P i = 0 := hsz
      generalize S.retire (xn : Int) = S1 at *
      obtain ⟨g1, c1, e1, hg1, hnc1, hc1m, hcl, hcut⟩ := hoH.cut hx
      cases e1
      obtain ⟨kr, hkr⟩ : ∃ kr, kr = held.length - (k + 1) := ⟨_, rfl⟩
      obtain ⟨kc, hkc⟩ : ∃ kc, kc = hvc - (k + 1) := ⟨_, rfl⟩
      rw [← hkr] at hkl2
      obtain ⟨ka, hkaC, hcut⟩ : ∃ ka, ((hvc = k + 1 ∧ ka = 0) ∨ (¬ hvc = k + 1 ∧ ka = k + 1)) ∧ ∀ w', Ext wr w' → (∀ (j : Nat) (u : Value), (intCells (held.take k))[j]? = some u → w'.cell? ((⟨g1, 0, none⟩ : Addr).add j) = some u) ∧ (∀ (j : Nat) (u : Value), (intCells (held.drop (k + 1)))[j]? = some u → w'.cell? ((⟨g1, ka, none⟩ : Addr).add j) = some u) := cut_addr hcut hkl2 (by omega) (by omega)
      have hkw : IntKind.i64.wrap ((k : Int) + 1) = (k : Int) + 1 := by rw [IntKind.wrap_i64]; omega
      have hkt : ((k : Int) + 1).toNat = k + 1 := by omega
      have hkz : (0 : Int) ≤ (k : Int) + 1 := by omega
      have hkb : k + kr ≤ 100 := by omega
      have hkI : (k : Int) < (held.length : Int) := by omega
      have hkI2 : (k : Int) + 1 ≤ (held.length : Int) := by omega
      have hkI3 : (k : Int) ≤ (hvc : Int) := by omega
      have hkI4 : (held.length : Int) ≤ (hvc : Int) := by omega
      have HKA := Lib.hid hkaC
      have HKR := Lib.hid hkr
      have HKC := Lib.hid hkc
      have HKT := Lib.hid hkt
      have HKW := Lib.hid hkw
      have HHE := Lib.hid hhe1
      clear hspl hx hkaC hkr hkc hkt hkw hhe hhe1 hpj hse hsz hxn
      have hX : ∀ wx, Ext wr wx → wx.cell? ⟨ga, 0, none⟩ = some (.int .i64 Xj.T) ∧ wx.cell? ⟨ga, 1, none⟩ = some (.int .i64 Xj.C) ∧ wx.cell? ⟨ga, 2, none⟩ = some (.slice bA bq bc) ∧ wx.cell? ⟨ga, 3, none⟩ = some (.int .u64 Xj.R) ∧ wx.cell? ⟨ga, 4, none⟩ = some (.slice bB Xj.n bb) ∧ wx.cell? ⟨ga, 5, none⟩ = some (.slice bC Xj.n bd) ∧ wx.cell? ⟨g1, k, none⟩ = some (.int .i64 (xn : Int)) := fun wx hx =>
        ⟨hx.cell (by simp [World.cell?, hb0]), hx.cell (by simp [World.cell?, hb0]), hx.cell (by simp [World.cell?, hb0]), hx.cell (by simp [World.cell?, hb0]), hx.cell (by simp [World.cell?, hb0]), hx.cell (by simp [World.cell?, hb0]), hx.cell hcl⟩
      clear hcl
      go_upto_region 22 with (fail)
      clear hcz
      refine' wp_region_lates [(10, [(8, 123)]), (11, [(8, 123)])] ⟨((some 124, [], none) :: (some 125, [], none) :: (some 126, [], none) :: (some 127, [], none) :: (some 128, [2, 3], none) :: (some 129, [4], none) :: (some 130, [5], none) :: (some 131, [0, 1, 6], none) :: (some 123, [7], none) :: (some 132, [8], none) :: (some 133, [8], none) :: (some 134, [8], none) :: (some 18, [], none) :: (some 19, [], none) :: (none, [12, 9, 7, 0, 1, 2, 3, 4, 5, 6, 7, 8, 9, 12, 13], none) :: (none, [13, 10, 14, 0, 1, 2, 3, 4, 5, 6, 7, 8, 9, 10, 12, 13, 14], none) :: (some 20, [11, 15, 0, 1, 2, 3, 4, 5, 6, 7, 8, 9, 10, 11, 12, 13, 14, 15], none) :: []), (0 :: 0 :: 0 :: 0 :: 12 :: 28 :: 60 :: 127 :: 255 :: 511 :: 511 :: 511 :: 0 :: 0 :: 13311 :: 30719 :: 65535 :: []), (true :: true :: true :: true :: true :: true :: true :: false :: false :: false :: false :: false :: true :: true :: []), [], 0⟩ 14 149 ((0, 124) :: (1, 125) :: (2, 126) :: (3, 127) :: (4, 128) :: (5, 129) :: (6, 130) :: (7, 131) :: (8, 123) :: (9, 132) :: (10, 133) :: (11, 134) :: (12, 18) :: (13, 19) :: []) ((0, 124) :: (1, 125) :: (2, 126) :: (3, 127) :: (4, 128) :: (5, 129) :: (6, 130) :: (7, 131) :: (8, 123) :: (9, 132) :: (10, 133) :: (11, 134) :: (12, 18) :: (13, 19) :: []) (.det _ :: .det _ :: .det _ :: .det _ :: .det _ :: .det _ :: .det _ :: Good.of (fun v w => ∃ v1, v = .tuple #[v1, .agg #[.int .i64 0, .bool false, .int .i64 0, .int .u64 0, .slice none 0 0], .bool true] ∧ WldV w v1 X1) (fun v w w' h hx => let ⟨v1, e, h1⟩ := h; ⟨v1, e, h1.ext hx⟩) :: Good.of (fun v w => ∃ v1, v = .tuple #[v1, .agg #[.int .i64 0, .bool false, .int .i64 0, .int .u64 0, .slice none 0 0], .bool true] ∧ WldV w v1 X1) (fun v w w' h hx => let ⟨v1, e, h1⟩ := h; ⟨v1, e, h1.ext hx⟩) :: Good.of (fun v w => WldV w v X1) (fun v w w' h hx => h.ext hx) :: Good.of (fun v w => v = .agg #[.int .i64 0, .bool false, .int .i64 0, .int .u64 0, .slice none 0 0]) (fun v w w' h hx => h) :: Good.of (fun v w => v = .bool true) (fun v w w' h hx => h) :: Good.box 51 #[.int .i64 0, .int .i64 0, .slice none 0 0, .int .u64 0, .slice none 0 0, .slice none 0 0] wr.heap.size :: Good.box 37 #[.int .i64 0, .bool false, .int .i64 0, .int .u64 0, .slice none 0 0] wr.heap.size :: []) (by kernel_rfl) (by kernel_rfl) (by kernel_rfl) rfl (by kernel_rfl) (by kernel_rfl) rfl (by kernel_rfl) (by kernel_rfl) (by kernel_rfl) rfl (fun _ _ _ _ _ h => h) ?hlate ?hone ?hend
      case hlate =>
        intro V hV
        refine ⟨?_, ?_, trivial⟩
        · intro wx hx ρ hρ hs o ho
          obtain ⟨sn8, -⟩ := hs
          rw [place_at hV (k := 8) rfl] at sn8
          rw [place_at hV (k := 10) rfl]
          obtain rfl := Option.some.inj ho
          obtain ⟨v1, e, h1⟩ := sn8
          refine ⟨.agg #[.int .i64 0, .bool false, .int .i64 0, .int .u64 0, .slice none 0 0], fun w'' => ?_, rfl⟩
          go_simp
        · intro wx hx ρ hρ hs o ho
          obtain ⟨sn8, -⟩ := hs
          rw [place_at hV (k := 8) rfl] at sn8
          rw [place_at hV (k := 11) rfl]
          obtain rfl := Option.some.inj ho
          obtain ⟨v1, e, h1⟩ := sn8
          refine ⟨.bool true, fun w'' => ?_, rfl⟩
          go_simp
      case hone =>
        intro CS frS VS hCS ha hV
        have qs7 := slot_val (t := 7) ha rfl
        simp only [List.getElem_toArray, List.getElem_cons_succ, List.getElem_cons_zero] at qs7
        have qs8 := slot_val (t := 8) ha rfl
        simp only [List.getElem_toArray, List.getElem_cons_succ, List.getElem_cons_zero] at qs8
        have qs10 := slot_val (t := 10) ha rfl
        simp only [List.getElem_toArray, List.getElem_cons_succ, List.getElem_cons_zero] at qs10
        have qs17 := slot_val (t := 17) ha rfl
        simp only [List.getElem_toArray, List.getElem_cons_succ, List.getElem_cons_zero] at qs17
        have HCS := Lib.hid hCS
        have HVS := Lib.hid hV
        clear ha hCS hV
        -- 0: slot 124 := Op.load 51 t7
        refine sure_det (js := []) (ts := [7]) (gd := none) (place_at HVS.out (k := 0) rfl) (by rw [HCS.out]; kernel_rfl) ?_ ?_
        · intro wx hx ρ hρ hs hf
          have hρc := hρ.const
          have hρf := hρ.func
          obtain ⟨fx7, -⟩ := hf
          rw [qs7] at fx7
          clear hs
          clear HCS HVS qs7 qs8 qs10 qs17
          refine run_plain ?_
          obtain ⟨e0, e1, e2, e3, e4, e5, e6⟩ := hX wx hx.drawn
          unfold runs
          go_simp
          exact detK.mk
        -- 1: slot 125 := Op.move t10
        refine sure_det (js := []) (ts := [10]) (gd := none) (place_at HVS.out (k := 1) rfl) (by rw [HCS.out]; kernel_rfl) ?_ ?_
        · intro wx hx ρ hρ hs hf
          have hρc := hρ.const
          have hρf := hρ.func
          obtain ⟨fx10, -⟩ := hf
          rw [qs10] at fx10
          clear hs
          clear HCS HVS qs7 qs8 qs10 qs17
          refine run_plain ?_
          refine op_move rfl fx10 ?_
          exact detK.mk
        -- 2: slot 126 := Op.move t8
        refine sure_det (js := []) (ts := [8]) (gd := none) (place_at HVS.out (k := 2) rfl) (by rw [HCS.out]; kernel_rfl) ?_ ?_
        · intro wx hx ρ hρ hs hf
          have hρc := hρ.const
          have hρf := hρ.func
          obtain ⟨fx8, -⟩ := hf
          rw [qs8] at fx8
          clear hs
          clear HCS HVS qs7 qs8 qs10 qs17
          refine run_plain ?_
          refine op_move rfl fx8 ?_
          exact detK.mk
        -- 3: slot 127 := Op.move t17
        refine sure_det (js := []) (ts := [17]) (gd := none) (place_at HVS.out (k := 3) rfl) (by rw [HCS.out]; kernel_rfl) ?_ ?_
        · intro wx hx ρ hρ hs hf
          have hρc := hρ.const
          have hρf := hρ.func
          obtain ⟨fx17, -⟩ := hf
          rw [qs17] at fx17
          clear hs
          clear HCS HVS qs7 qs8 qs10 qs17
          refine run_plain ?_
          refine op_move rfl fx17 ?_
          exact detK.mk
        -- 4: slot 128 := Op.indexAddr 35 t126 t127
        refine sure_det (js := [(2, 126), (3, 127)]) (ts := []) (gd := none) (place_at HVS.out (k := 4) rfl) (by rw [HCS.out]; kernel_rfl) ?_ ?_
        · intro wx hx ρ hρ hs hf
          have hρc := hρ.const
          have hρf := hρ.func
          obtain ⟨sn2, sn3, -⟩ := hs
          rw [place_at HVS.out (k := 2) rfl] at sn2
          replace sn2 : ρ (.tmp 126) = _ := sn2
          rw [place_at HVS.out (k := 3) rfl] at sn3
          replace sn3 : ρ (.tmp 127) = _ := sn3
          clear hf
          clear HCS HVS qs7 qs8 qs10 qs17
          refine run_plain ?_
          unfold runs
          go_simp
          exact detK.mk
        -- 5: slot 129 := Op.load 3 t128
        refine sure_det (js := [(4, 128)]) (ts := []) (gd := none) (place_at HVS.out (k := 5) rfl) (by rw [HCS.out]; kernel_rfl) ?_ ?_
        · intro wx hx ρ hρ hs hf
          have hρc := hρ.const
          have hρf := hρ.func
          obtain ⟨sn4, -⟩ := hs
          rw [place_at HVS.out (k := 4) rfl] at sn4
          replace sn4 : ρ (.tmp 128) = _ := sn4
          clear hf
          clear HCS HVS qs7 qs8 qs10 qs17
          refine run_plain ?_
          obtain ⟨e0, e1, e2, e3, e4, e5, e6⟩ := hX wx hx.drawn
          unfold runs
          go_simp
          exact detK.mk
        -- 6: slot 130 := Op.build 24 #[(0, (i64 5)), (1, t129]
        refine sure_det (js := [(5, 129)]) (ts := []) (gd := none) (place_at HVS.out (k := 6) rfl) (by rw [HCS.out]; kernel_rfl) ?_ ?_
        · intro wx hx ρ hρ hs hf
          have hρc := hρ.const
          have hρf := hρ.func
          obtain ⟨sn5, -⟩ := hs
          rw [place_at HVS.out (k := 5) rfl] at sn5
          replace sn5 : ρ (.tmp 129) = _ := sn5
          clear hf
          clear HCS HVS qs7 qs8 qs10 qs17
          refine run_plain ?_
          unfold runs
          go_simp
          exact detK.mk
        -- 7: slot 131 := Op.call { call ( 22), args := #[t124, t125, t130, (i64 9)], argTypes := #[51, 3, 24, 3] }
        refine sure_op (js := [(0, 124), (1, 125), (6, 130)]) (ts := []) (gd := none) (place_at HVS.out (k := 7) rfl) (by rw [HCS.out]; kernel_rfl) ?_ ?_
        · intro wx hx ρ hρ hs hf
          have hρc := hρ.const
          have hρf := hρ.func
          obtain ⟨sn0, sn1, sn6, -⟩ := hs
          rw [place_at HVS.out (k := 0) rfl] at sn0
          replace sn0 : ρ (.tmp 124) = _ := sn0
          rw [place_at HVS.out (k := 1) rfl] at sn1
          replace sn1 : ρ (.tmp 125) = _ := sn1
          rw [place_at HVS.out (k := 6) rfl] at sn6
          replace sn6 : ρ (.tmp 130) = _ := sn6
          clear hf
          clear HCS HVS qs7 qs8 qs10 qs17
          refine run_plain ?_
          refine op_call rfl hρ Try.call22 (map_four sn0 sn1 sn6 (hρ.const _)) ?_
          refine Calls.mono (hcon _ _ _ _ (hbV.ext hx.drawn)) ?_
          rintro e w' ⟨v1, rfl, h1, hx5⟩
          exact ⟨_, rfl, hx5, v1, rfl, h1⟩
        -- 8: slot 123 := Op.move t131
        refine sure_op (js := [(7, 131)]) (ts := []) (gd := none) (place_at HVS.out (k := 8) rfl) (by rw [HCS.out]; kernel_rfl) ?_ ?_
        · intro wx hx ρ hρ hs hf
          have hρc := hρ.const
          have hρf := hρ.func
          obtain ⟨sn7, -⟩ := hs
          rw [place_at HVS.out (k := 7) rfl] at sn7
          replace sn7 : ∃ v1, (ρ (.tmp 131)) = .tuple #[v1, .agg #[.int .i64 0, .bool false, .int .i64 0, .int .u64 0, .slice none 0 0], .bool true] ∧ WldV wx v1 X1 := sn7
          clear hf
          clear HCS HVS qs7 qs8 qs10 qs17
          refine run_plain ?_
          refine op_move rfl rfl ?_
          exact ⟨Ext.refl _, sn7⟩
        -- 9: slot 132 := Op.extract t123 0
        refine sure_op (js := [(8, 123)]) (ts := []) (gd := none) (place_at HVS.out (k := 9) rfl) (by rw [HCS.out]; kernel_rfl) ?_ ?_
        · intro wx hx ρ hρ hs hf
          have hρc := hρ.const
          have hρf := hρ.func
          obtain ⟨sn8, -⟩ := hs
          rw [place_at HVS.out (k := 8) rfl] at sn8
          replace sn8 : ∃ v1, (ρ (.tmp 123)) = .tuple #[v1, .agg #[.int .i64 0, .bool false, .int .i64 0, .int .u64 0, .slice none 0 0], .bool true] ∧ WldV wx v1 X1 := sn8
          clear hf
          clear HCS HVS qs7 qs8 qs10 qs17
          refine run_plain ?_
          obtain ⟨v1, e, h1⟩ := sn8
          unfold runs
          go_simp
          exact ⟨Ext.refl _, h1⟩
        -- 10: slot 133 := Op.extract t123 1
        refine sure_op (js := [(8, 123)]) (ts := []) (gd := none) (place_at HVS.out (k := 10) rfl) (by rw [HCS.out]; kernel_rfl) ?_ ?_
        · intro wx hx ρ hρ hs hf
          have hρc := hρ.const
          have hρf := hρ.func
          obtain ⟨sn8, -⟩ := hs
          rw [place_at HVS.out (k := 8) rfl] at sn8
          replace sn8 : ∃ v1, (ρ (.tmp 123)) = .tuple #[v1, .agg #[.int .i64 0, .bool false, .int .i64 0, .int .u64 0, .slice none 0 0], .bool true] ∧ WldV wx v1 X1 := sn8
          clear hf
          clear HCS HVS qs7 qs8 qs10 qs17
          refine run_plain ?_
          obtain ⟨v1, e, h1⟩ := sn8
          unfold runs
          go_simp
          first | exact ⟨Ext.refl _, rfl⟩ | exact Ext.refl _
        -- 11: slot 134 := Op.extract t123 2
        refine sure_op (js := [(8, 123)]) (ts := []) (gd := none) (place_at HVS.out (k := 11) rfl) (by rw [HCS.out]; kernel_rfl) ?_ ?_
        · intro wx hx ρ hρ hs hf
          have hρc := hρ.const
          have hρf := hρ.func
          obtain ⟨sn8, -⟩ := hs
          rw [place_at HVS.out (k := 8) rfl] at sn8
          replace sn8 : ∃ v1, (ρ (.tmp 123)) = .tuple #[v1, .agg #[.int .i64 0, .bool false, .int .i64 0, .int .u64 0, .slice none 0 0], .bool true] ∧ WldV wx v1 X1 := sn8
          clear hf
          clear HCS HVS qs7 qs8 qs10 qs17
          refine run_plain ?_
          obtain ⟨v1, e, h1⟩ := sn8
          unfold runs
          go_simp
          first | exact ⟨Ext.refl _, rfl⟩ | exact Ext.refl _
        -- 12: slot 18 := Op.alloc 51
        refine sure_op (js := []) (ts := []) (gd := none) (place_at HVS.out (k := 12) rfl) (by rw [HCS.out]; kernel_rfl) ?_ ?_
        · intro wx hx ρ hρ hs hf
          have hρc := hρ.const
          have hρf := hρ.func
          clear hs
          clear hf
          clear HCS HVS qs7 qs8 qs10 qs17
          refine run_plain ?_
          refine op_alloc rfl (Try.zeroValue51 _) ?_
          exact ⟨Ext.refl _ |>.alloc (Nat.le_refl _) _, wx.heap.size, rfl, hx.size, heap_alloc_new wx _⟩
        -- 13: slot 19 := Op.alloc 37
        refine sure_op (js := []) (ts := []) (gd := none) (place_at HVS.out (k := 13) rfl) (by rw [HCS.out]; kernel_rfl) ?_ ?_
        · intro wx hx ρ hρ hs hf
          have hρc := hρ.const
          have hρf := hρ.func
          clear hs
          clear hf
          clear HCS HVS qs7 qs8 qs10 qs17
          refine run_plain ?_
          refine op_alloc rfl (Try.zeroValue37 _) ?_
          exact ⟨Ext.refl _ |>.alloc (Nat.le_refl _) _, wx.heap.size, rfl, hx.size, heap_alloc_new wx _⟩
        exact trivial
      case hend =>
        intro xs wx hx hg
        have gk0 : xs 0 = _ := goods_get hg (i := 0) (j := 0) (d := 124) rfl
        have gk1 : xs 1 = _ := goods_get hg (i := 1) (j := 1) (d := 125) rfl
        have gk2 : xs 2 = _ := goods_get hg (i := 2) (j := 2) (d := 126) rfl
        have gk3 : xs 3 = _ := goods_get hg (i := 3) (j := 3) (d := 127) rfl
        have gk4 : xs 4 = _ := goods_get hg (i := 4) (j := 4) (d := 128) rfl
        have gk5 : xs 5 = _ := goods_get hg (i := 5) (j := 5) (d := 129) rfl
        have gk6 : xs 6 = _ := goods_get hg (i := 6) (j := 6) (d := 130) rfl
        have gk7 : ∃ v1, (xs 7) = .tuple #[v1, .agg #[.int .i64 0, .bool false, .int .i64 0, .int .u64 0, .slice none 0 0], .bool true] ∧ WldV wx v1 X1 := goods_get hg (i := 7) (j := 7) (d := 131) rfl
        have gk8 : ∃ v1, (xs 8) = .tuple #[v1, .agg #[.int .i64 0, .bool false, .int .i64 0, .int .u64 0, .slice none 0 0], .bool true] ∧ WldV wx v1 X1 := goods_get hg (i := 8) (j := 8) (d := 123) rfl
        have gk9 : WldV wx (xs 9) X1 := goods_get hg (i := 9) (j := 9) (d := 132) rfl
        have gk10 : (xs 10) = .agg #[.int .i64 0, .bool false, .int .i64 0, .int .u64 0, .slice none 0 0] := goods_get hg (i := 10) (j := 10) (d := 133) rfl
        have gk11 : (xs 11) = .bool true := goods_get hg (i := 11) (j := 11) (d := 134) rfl
        have gk12 : boxG 51 #[.int .i64 0, .int .i64 0, .slice none 0 0, .int .u64 0, .slice none 0 0, .slice none 0 0] wr.heap.size (xs 12) wx := goods_get hg (i := 12) (j := 12) (d := 18) rfl
        have gk13 : boxG 37 #[.int .i64 0, .bool false, .int .i64 0, .int .u64 0, .slice none 0 0] wr.heap.size (xs 13) wx := goods_get hg (i := 13) (j := 13) (d := 19) rfl
        clear hg
        simp only [putAll, gk0, gk1, gk2, gk3, gk4, gk5, gk6]
        clear gk0 gk1 gk2 gk3 gk4 gk5 gk6
        generalize xs 7 = vx7 at gk7 ⊢
        generalize xs 8 = vx8 at gk8 ⊢
        generalize xs 9 = vx9 at gk9 ⊢
        generalize xs 10 = vx10 at gk10 ⊢
        generalize xs 11 = vx11 at gk11 ⊢
        generalize xs 12 = vx12 at gk12 ⊢
        generalize xs 13 = vx13 at gk13 ⊢
        clear xs
        simp only [Act.put, List.setIfInBounds_toArray, List.set_cons_zero, List.set_cons_succ, List.drop_succ_cons, List.drop_zero]
        obtain ⟨gA, rfl, hgA, hcA⟩ := gk12
        obtain ⟨gB, rfl, hgB, hcB⟩ := gk13
        have hv1 := gk9
        obtain rfl := gk10
        obtain rfl := gk11
        obtain ⟨cA, cq, cc, cB, cb, cC, cd, rfl⟩ := gk9.form6
        clear gk7 gk8 gk9
        have hne_ : gA ≠ gB := fun e => by subst e; rw [hcA] at hcB; cases hcB
        have hE2 : Ext wr (((((((((((wx.setCell ⟨gA, 0, none⟩ (.int .i64 X1.T)).setCell ⟨gA, 1, none⟩ (.int .i64 X1.C)).setCell ⟨gA, 2, none⟩ (.slice cA cq cc)).setCell ⟨gA, 3, none⟩ (.int .u64 X1.R)).setCell ⟨gA, 4, none⟩ (.slice cB X1.n cb)).setCell ⟨gA, 5, none⟩ (.slice cC X1.n cd)).setCell ⟨gB, 0, none⟩ (.int .i64 0)).setCell ⟨gB, 1, none⟩ (.bool false)).setCell ⟨gB, 2, none⟩ (.int .i64 0)).setCell ⟨gB, 3, none⟩ (.int .u64 0)).setCell ⟨gB, 4, none⟩ (.slice none 0 0)) := setAll_ext (g := gB) (vs := [.int .i64 0, .bool false, .int .i64 0, .int .u64 0, .slice none 0 0]) (i := 0) (setAll_ext (g := gA) (vs := [.int .i64 X1.T, .int .i64 X1.C, .slice cA cq cc, .int .u64 X1.R, .slice cB X1.n cb, .slice cC X1.n cd]) (i := 0) hx.drawn hgA) hgB
        have hbc : (((((((((((wx.setCell ⟨gA, 0, none⟩ (.int .i64 X1.T)).setCell ⟨gA, 1, none⟩ (.int .i64 X1.C)).setCell ⟨gA, 2, none⟩ (.slice cA cq cc)).setCell ⟨gA, 3, none⟩ (.int .u64 X1.R)).setCell ⟨gA, 4, none⟩ (.slice cB X1.n cb)).setCell ⟨gA, 5, none⟩ (.slice cC X1.n cd)).setCell ⟨gB, 0, none⟩ (.int .i64 0)).setCell ⟨gB, 1, none⟩ (.bool false)).setCell ⟨gB, 2, none⟩ (.int .i64 0)).setCell ⟨gB, 3, none⟩ (.int .u64 0)).setCell ⟨gB, 4, none⟩ (.slice none 0 0)).heap[gA]? = some (.cells #[.int .i64 X1.T, .int .i64 X1.C, .slice cA cq cc, .int .u64 X1.R, .slice cB X1.n cb, .slice cC X1.n cd] 51 (0, 0)) := (setAll_other (g := gB) hne_ [.int .i64 0, .bool false, .int .i64 0, .int .u64 0, .slice none 0 0] 0 (setAll gA 0 [.int .i64 X1.T, .int .i64 X1.C, .slice cA cq cc, .int .u64 X1.R, .slice cB X1.n cb, .slice cC X1.n cd] wx)).trans (setAll_all (vs := [.int .i64 X1.T, .int .i64 X1.C, .slice cA cq cc, .int .u64 X1.R, .slice cB X1.n cb, .slice cC X1.n cd]) hcA rfl)
        have hBm : (setAll gA 0 [.int .i64 X1.T, .int .i64 X1.C, .slice cA cq cc, .int .u64 X1.R, .slice cB X1.n cb, .slice cC X1.n cd] wx).heap[gB]? = _ := (setAll_other (g := gA) (Ne.symm hne_) [.int .i64 X1.T, .int .i64 X1.C, .slice cA cq cc, .int .u64 X1.R, .slice cB X1.n cb, .slice cC X1.n cd] 0 wx).trans hcB
        have hoc : (((((((((((wx.setCell ⟨gA, 0, none⟩ (.int .i64 X1.T)).setCell ⟨gA, 1, none⟩ (.int .i64 X1.C)).setCell ⟨gA, 2, none⟩ (.slice cA cq cc)).setCell ⟨gA, 3, none⟩ (.int .u64 X1.R)).setCell ⟨gA, 4, none⟩ (.slice cB X1.n cb)).setCell ⟨gA, 5, none⟩ (.slice cC X1.n cd)).setCell ⟨gB, 0, none⟩ (.int .i64 0)).setCell ⟨gB, 1, none⟩ (.bool false)).setCell ⟨gB, 2, none⟩ (.int .i64 0)).setCell ⟨gB, 3, none⟩ (.int .u64 0)).setCell ⟨gB, 4, none⟩ (.slice none 0 0)).heap[gB]? = some (.cells #[.int .i64 0, .bool false, .int .i64 0, .int .u64 0, .slice none 0 0] 37 (0, 0)) := setAll_all (vs := [.int .i64 0, .bool false, .int .i64 0, .int .u64 0, .slice none 0 0]) hBm rfl
        have hVc := (hv1.but hk1.2.2 (But.all gA [.int .i64 X1.T, .int .i64 X1.C, .slice cA cq cc, .int .u64 X1.R, .slice cB X1.n cb, .slice cC X1.n cd] 0 wx) hcA rfl).but hk1.2.2 (But.all gB [.int .i64 0, .bool false, .int .i64 0, .int .u64 0, .slice none 0 0] 0 _) hBm rfl
        change WldV (((((((((((wx.setCell ⟨gA, 0, none⟩ (.int .i64 X1.T)).setCell ⟨gA, 1, none⟩ (.int .i64 X1.C)).setCell ⟨gA, 2, none⟩ (.slice cA cq cc)).setCell ⟨gA, 3, none⟩ (.int .u64 X1.R)).setCell ⟨gA, 4, none⟩ (.slice cB X1.n cb)).setCell ⟨gA, 5, none⟩ (.slice cC X1.n cd)).setCell ⟨gB, 0, none⟩ (.int .i64 0)).setCell ⟨gB, 1, none⟩ (.bool false)).setCell ⟨gB, 2, none⟩ (.int .i64 0)).setCell ⟨gB, 3, none⟩ (.int .u64 0)).setCell ⟨gB, 4, none⟩ (.slice none 0 0)) _ _ at hVc
        have y0 : wx.cell? ⟨gA, 0, none⟩ = some (.int .i64 0) := by simp [World.cell?, hcA]
        have yf0 : wx.frozen? ⟨gA, 0, none⟩ = false := by simp [World.frozen?, hcA]
        have y1 : wx.cell? ⟨gA, 1, none⟩ = some (.int .i64 0) := by simp [World.cell?, hcA]
        have yf1 : wx.frozen? ⟨gA, 1, none⟩ = false := by simp [World.frozen?, hcA]
        have y2 : wx.cell? ⟨gA, 2, none⟩ = some (.slice none 0 0) := by simp [World.cell?, hcA]
        have yf2 : wx.frozen? ⟨gA, 2, none⟩ = false := by simp [World.frozen?, hcA]
        have y3 : wx.cell? ⟨gA, 3, none⟩ = some (.int .u64 0) := by simp [World.cell?, hcA]
        have yf3 : wx.frozen? ⟨gA, 3, none⟩ = false := by simp [World.frozen?, hcA]
        have y4 : wx.cell? ⟨gA, 4, none⟩ = some (.slice none 0 0) := by simp [World.cell?, hcA]
        have yf4 : wx.frozen? ⟨gA, 4, none⟩ = false := by simp [World.frozen?, hcA]
        have y5 : wx.cell? ⟨gA, 5, none⟩ = some (.slice none 0 0) := by simp [World.cell?, hcA]
        have yf5 : wx.frozen? ⟨gA, 5, none⟩ = false := by simp [World.frozen?, hcA]
        have u0 : wx.cell? ⟨gB, 0, none⟩ = some (.int .i64 0) := by simp [World.cell?, hcB]
        have uf0 : wx.frozen? ⟨gB, 0, none⟩ = false := by simp [World.frozen?, hcB]
        have u1 : wx.cell? ⟨gB, 1, none⟩ = some (.bool false) := by simp [World.cell?, hcB]
        have uf1 : wx.frozen? ⟨gB, 1, none⟩ = false := by simp [World.frozen?, hcB]
        have u2 : wx.cell? ⟨gB, 2, none⟩ = some (.int .i64 0) := by simp [World.cell?, hcB]
        have uf2 : wx.frozen? ⟨gB, 2, none⟩ = false := by simp [World.frozen?, hcB]
        have u3 : wx.cell? ⟨gB, 3, none⟩ = some (.int .u64 0) := by simp [World.cell?, hcB]
        have uf3 : wx.frozen? ⟨gB, 3, none⟩ = false := by simp [World.frozen?, hcB]
        have u4 : wx.cell? ⟨gB, 4, none⟩ = some (.slice none 0 0) := by simp [World.cell?, hcB]
        have uf4 : wx.frozen? ⟨gB, 4, none⟩ = false := by simp [World.frozen?, hcB]
        go_upto_region 23 with (fail)
        generalize (((((((((((wx.setCell ⟨gA, 0, none⟩ (.int .i64 X1.T)).setCell ⟨gA, 1, none⟩ (.int .i64 X1.C)).setCell ⟨gA, 2, none⟩ (.slice cA cq cc)).setCell ⟨gA, 3, none⟩ (.int .u64 X1.R)).setCell ⟨gA, 4, none⟩ (.slice cB X1.n cb)).setCell ⟨gA, 5, none⟩ (.slice cC X1.n cd)).setCell ⟨gB, 0, none⟩ (.int .i64 0)).setCell ⟨gB, 1, none⟩ (.bool false)).setCell ⟨gB, 2, none⟩ (.int .i64 0)).setCell ⟨gB, 3, none⟩ (.int .u64 0)).setCell ⟨gB, 4, none⟩ (.slice none 0 0)) = wf at *
        clear y0 yf0 y1 yf1 y2 yf2 y3 yf3 y4 yf4 y5 yf5 u0 uf0 u1 uf1 u2 uf2 u3 uf3 u4 uf4 hBm hcA hcB hv1 hx
        have nA : gA ≠ ga := by omega
        have nA' : ga ≠ gA := by omega
        have nB : gB ≠ ga := by omega
        replace hgr := Nat.le_trans hgr hE2.size
        replace hcut := fun w' (hx : Ext wf w') => hcut w' (hE2.trans hx)
        replace hb0 := heap_ext hb0 hE2
        replace hbV := hbV.ext hE2
        replace hoH := hoH.ext hE2
        replace hWr := hWr.trans hE2
        clear hE2
        clear hcon hX hoc
        go_upto_region 25 with (fail)
        refine' wp_region_sure_all ⟨((some 137, [], none) :: (some 138, [], none) :: (some 139, [], none) :: (some 140, [1, 2], none) :: (some 141, [0, 3], none) :: (some 142, [], none) :: (some 143, [], none) :: (some 144, [6], none) :: (some 145, [5, 7], none) :: (some 146, [4, 8, 4], none) :: (some 8, [9, 9, 0, 1, 2, 3, 4, 5, 6, 7, 8, 9], none) :: []), (0 :: 0 :: 0 :: 6 :: 15 :: 0 :: 0 :: 64 :: 224 :: 511 :: 1023 :: []), (false :: true :: true :: true :: false :: true :: true :: true :: true :: false :: false :: []), [4, 9], 3⟩ 11 149 ((0, 137) :: (1, 138) :: (2, 139) :: (3, 140) :: (4, 141) :: (5, 142) :: (6, 143) :: (7, 144) :: (8, 145) :: (9, 146) :: (10, 8) :: []) ((1, 138) :: (2, 139) :: (3, 140) :: (5, 142) :: (6, 143) :: (7, 144) :: (8, 145) :: (9, 146) :: (10, 8) :: []) (Good.of (fun v w => IntSome w wf.heap.size v 0 []) (fun v w w' h hx => IntSome.ext h hx) :: .det _ :: .det _ :: .det _ :: Good.of (fun v w => IntSome w wf.heap.size v (0 + k) ([] ++ held.take k)) (fun v w w' h hx => IntSome.ext h hx) :: .det _ :: .det _ :: .det _ :: (Good.own fun v => v = .slice (some ⟨g1, ka, none⟩) kr kc) :: Good.of (fun v w => IntSome w wf.heap.size v (0 + k + kr) ([] ++ held.take k ++ held.drop (k + 1))) (fun v w w' h hx => IntSome.ext h hx) :: Good.of (fun v w => IntSome w wf.heap.size v (0 + k + kr) ([] ++ held.take k ++ held.drop (k + 1))) (fun v w w' h hx => IntSome.ext h hx) :: []) (by kernel_rfl) (by kernel_rfl) (by kernel_rfl) rfl (by kernel_rfl) (by kernel_rfl) rfl (by kernel_rfl) ?hone ?hend
        case hone =>
          intro CS frS VS hCS ha hV
          have qs8 := slot_val (t := 8) ha rfl
          simp only [List.getElem_toArray, List.getElem_cons_succ, List.getElem_cons_zero] at qs8
          have qs17 := slot_val (t := 17) ha rfl
          simp only [List.getElem_toArray, List.getElem_cons_succ, List.getElem_cons_zero] at qs17
          have HCS := Lib.hid hCS
          have HVS := Lib.hid hV
          clear ha hCS hV
          -- 0: slot 137 := Op.buildSlice 35 0 #[]
          refine sure_op (js := []) (ts := []) (gd := none) (place_at HVS.out (k := 0) rfl) (by rw [HCS.out]; kernel_rfl) ?_ ?_
          · intro wx hx ρ hρ hs hf
            have hρc := hρ.const
            have hρf := hρ.func
            clear hs
            clear hf
            clear HCS HVS qs8 qs17
            refine run_plain ?_
            refine op_buildSlice rfl (by simpa using hr0 wx) ?_
            exact ⟨Ext.refl _ |>.alloc (Nat.le_refl _) _, int0_some wx _ hx.size⟩
          -- 1: slot 138 := Op.move t8
          refine sure_det (js := []) (ts := [8]) (gd := none) (place_at HVS.out (k := 1) rfl) (by rw [HCS.out]; kernel_rfl) ?_ ?_
          · intro wx hx ρ hρ hs hf
            have hρc := hρ.const
            have hρf := hρ.func
            obtain ⟨fx8, -⟩ := hf
            rw [qs8] at fx8
            clear hs
            clear HCS HVS qs8 qs17
            refine run_plain ?_
            refine op_move rfl fx8 ?_
            exact detK.mk
          -- 2: slot 139 := Op.move t17
          refine sure_det (js := []) (ts := [17]) (gd := none) (place_at HVS.out (k := 2) rfl) (by rw [HCS.out]; kernel_rfl) ?_ ?_
          · intro wx hx ρ hρ hs hf
            have hρc := hρ.const
            have hρf := hρ.func
            obtain ⟨fx17, -⟩ := hf
            rw [qs17] at fx17
            clear hs
            clear HCS HVS qs8 qs17
            refine run_plain ?_
            refine op_move rfl fx17 ?_
            exact detK.mk
          -- 3: slot 140 := Op.slice 35 t138 none (some t139) none
          refine sure_det (js := [(1, 138), (2, 139)]) (ts := []) (gd := none) (place_at HVS.out (k := 3) rfl) (by rw [HCS.out]; kernel_rfl) ?_ ?_
          · intro wx hx ρ hρ hs hf
            have hρc := hρ.const
            have hρf := hρ.func
            obtain ⟨sn1, sn2, -⟩ := hs
            rw [place_at HVS.out (k := 1) rfl] at sn1
            replace sn1 : ρ (.tmp 138) = _ := sn1
            rw [place_at HVS.out (k := 2) rfl] at sn2
            replace sn2 : ρ (.tmp 139) = _ := sn2
            clear hf
            clear HCS HVS qs8 qs17
            refine run_plain ?_
            unfold runs
            go_simp
            exact detK.mk
          -- 4: slot 141 := Op.call { append, args := #[t137, t140], argTypes := #[35, 35] }
          refine sure_wild (js := [(0, 137), (3, 140)]) (ts := []) (gd := none) (place_at HVS.out (k := 4) rfl) (by rw [HCS.out]) (by rw [HCS.out]; kernel_rfl) ?_ ?_
          · intro wx hx ρ hρ hs hf
            have hρc := hρ.const
            have hρf := hρ.func
            obtain ⟨sn0, sn3, -⟩ := hs
            rw [place_at HVS.out (k := 0) rfl] at sn0
            replace sn0 : IntSome wx wf.heap.size (ρ (.tmp 137)) 0 [] := sn0
            rw [place_at HVS.out (k := 3) rfl] at sn3
            replace sn3 : ρ (.tmp 140) = _ := sn3
            clear hf
            clear HCS HVS qs8 qs17
            refine run_plain ?_
            obtain ⟨v', w', hr, ho, hb, hwr⟩ := run_append_some (P := Try.prog) (w := wx) wf.heap.size 35 35 i0 Try.underlying35 hi0 hz0 hz1 hz2 _ 0 [] sn0 ⟨g1, 0, none⟩ k hvc (held.take k) hkl1 (hcut wx hx.drawn).1 (by omega) hx.size
            refine op_append rfl rfl sn3 hr ?_
            exact ⟨⟨hb, hwr⟩, ho⟩
          -- 5: slot 142 := Op.move t8
          refine sure_det (js := []) (ts := [8]) (gd := none) (place_at HVS.out (k := 5) rfl) (by rw [HCS.out]; kernel_rfl) ?_ ?_
          · intro wx hx ρ hρ hs hf
            have hρc := hρ.const
            have hρf := hρ.func
            obtain ⟨fx8, -⟩ := hf
            rw [qs8] at fx8
            clear hs
            clear HCS HVS qs8 qs17
            refine run_plain ?_
            refine op_move rfl fx8 ?_
            exact detK.mk
          -- 6: slot 143 := Op.move t17
          refine sure_det (js := []) (ts := [17]) (gd := none) (place_at HVS.out (k := 6) rfl) (by rw [HCS.out]; kernel_rfl) ?_ ?_
          · intro wx hx ρ hρ hs hf
            have hρc := hρ.const
            have hρf := hρ.func
            obtain ⟨fx17, -⟩ := hf
            rw [qs17] at fx17
            clear hs
            clear HCS HVS qs8 qs17
            refine run_plain ?_
            refine op_move rfl fx17 ?_
            exact detK.mk
          -- 7: slot 144 := Op.binOp BinOp.add 3 t143 ((i64 1)) 3
          refine sure_det (js := [(6, 143)]) (ts := []) (gd := none) (place_at HVS.out (k := 7) rfl) (by rw [HCS.out]; kernel_rfl) ?_ ?_
          · intro wx hx ρ hρ hs hf
            have hρc := hρ.const
            have hρf := hρ.func
            obtain ⟨sn6, -⟩ := hs
            rw [place_at HVS.out (k := 6) rfl] at sn6
            replace sn6 : ρ (.tmp 143) = _ := sn6
            clear hf
            clear HCS HVS qs8 qs17
            refine run_plain ?_
            unfold runs
            go_simp
            exact detK.mk
          -- 8: slot 145 := Op.slice 35 t142 (some t144) none none
          refine sure_op (js := [(5, 142), (7, 144)]) (ts := []) (gd := none) (place_at HVS.out (k := 8) rfl) (by rw [HCS.out]; kernel_rfl) ?_ ?_
          · intro wx hx ρ hρ hs hf
            have hρc := hρ.const
            have hρf := hρ.func
            obtain ⟨sn5, sn7, -⟩ := hs
            rw [place_at HVS.out (k := 5) rfl] at sn5
            replace sn5 : ρ (.tmp 142) = _ := sn5
            rw [place_at HVS.out (k := 7) rfl] at sn7
            replace sn7 : ρ (.tmp 144) = _ := sn7
            clear hf
            clear HCS HVS qs8 qs17
            refine run_plain ?_
            have hkaC := HKA.out
            have hkr := HKR.out
            have hkc := HKC.out
            have hkt := HKT.out
            have hkw := HKW.out
            unfold runs
            rcases hkaC with ⟨hcc, hka⟩ | ⟨hcc, hka⟩ <;> go_simp <;> exact ⟨Ext.refl _, rfl⟩
          -- 9: slot 146 := Op.call { append, args := #[t141, t145], argTypes := #[35, 35] }
          refine sure_wild (js := [(4, 141), (8, 145)]) (ts := []) (gd := none) (place_at HVS.out (k := 9) rfl) (by rw [HCS.out]) (by rw [HCS.out]; kernel_rfl) ?_ ?_
          · intro wx hx ρ hρ hs hf
            have hρc := hρ.const
            have hρf := hρ.func
            obtain ⟨sn4, sn8, -⟩ := hs
            rw [place_at HVS.out (k := 4) rfl] at sn4
            replace sn4 : IntSome wx wf.heap.size (ρ (.tmp 141)) (0 + k) ([] ++ held.take k) := sn4
            rw [place_at HVS.out (k := 8) rfl] at sn8
            replace sn8 : (ρ (.tmp 145)) = .slice (some ⟨g1, ka, none⟩) kr kc := sn8
            clear hf
            clear HCS HVS qs8 qs17
            refine run_plain ?_
            obtain ⟨v', w', hr, ho, hb, hwr⟩ := run_append_some (P := Try.prog) (w := wx) wf.heap.size 35 35 i0 Try.underlying35 hi0 hz0 hz1 hz2 _ (0 + k) ([] ++ held.take k) sn4 ⟨g1, ka, none⟩ kr kc (held.drop (k + 1)) hkl2 (hcut wx hx.drawn).2 (by omega) hx.size
            refine op_append rfl rfl sn8 hr ?_
            exact ⟨⟨hb, hwr⟩, ho⟩
          -- 10: slot 8 := Op.assign t146
          refine sure_op (js := [(9, 146)]) (ts := []) (gd := none) (place_at HVS.out (k := 10) rfl) (by rw [HCS.out]; kernel_rfl) ?_ ?_
          · intro wx hx ρ hρ hs hf
            have hρc := hρ.const
            have hρf := hρ.func
            obtain ⟨sn9, -⟩ := hs
            rw [place_at HVS.out (k := 9) rfl] at sn9
            replace sn9 : IntSome wx wf.heap.size (ρ (.tmp 146)) (0 + k + kr) ([] ++ held.take k ++ held.drop (k + 1)) := sn9
            clear hf
            clear HCS HVS qs8 qs17
            refine run_plain ?_
            refine op_assign rfl rfl ?_
            exact ⟨Ext.refl _, sn9⟩
          exact trivial
        case hend =>
          intro xs wx hx hg
          have gk1 : xs 1 = _ := goods_get hg (i := 0) (j := 1) (d := 138) rfl
          have gk2 : xs 2 = _ := goods_get hg (i := 1) (j := 2) (d := 139) rfl
          have gk3 : xs 3 = _ := goods_get hg (i := 2) (j := 3) (d := 140) rfl
          have gk5 : xs 5 = _ := goods_get hg (i := 3) (j := 5) (d := 142) rfl
          have gk6 : xs 6 = _ := goods_get hg (i := 4) (j := 6) (d := 143) rfl
          have gk7 : xs 7 = _ := goods_get hg (i := 5) (j := 7) (d := 144) rfl
          have gk8 : (xs 8) = .slice (some ⟨g1, ka, none⟩) kr kc := goods_get hg (i := 6) (j := 8) (d := 145) rfl
          have gk9 : IntSome wx wf.heap.size (xs 9) (0 + k + kr) ([] ++ held.take k ++ held.drop (k + 1)) := goods_get hg (i := 7) (j := 9) (d := 146) rfl
          have gk10 : IntSome wx wf.heap.size (xs 10) (0 + k + kr) ([] ++ held.take k ++ held.drop (k + 1)) := goods_get hg (i := 8) (j := 10) (d := 8) rfl
          clear hg
          simp only [putAll, gk1, gk2, gk3, gk5, gk6, gk7]
          clear gk1 gk2 gk3 gk5 gk6 gk7
          generalize xs 0 = vx0
          generalize xs 4 = vx4
          generalize xs 8 = vx8 at gk8 ⊢
          generalize xs 9 = vx9 at gk9 ⊢
          generalize xs 10 = vx10 at gk10 ⊢
          clear xs
          simp only [Act.put, List.setIfInBounds_toArray, List.set_cons_zero, List.set_cons_succ]
          have hnewh := gk10
          clear gk10
          go_upto_region 26 with (fail)
          have hx2 : Ext wf wx := hx.drawn
          obtain ⟨hnew1, -⟩ := hnewh
          rw [List.nil_append] at hnew1
          have hhe1 := HHE.out
          generalize hrow : held.take k ++ held.drop (k + 1) = row at *
          have hrl : row.length = 0 + k + kr := hnew1.1
          have hoH2 : IntOwn wx gs vx10 row.length row := by rw [hrl]; exact hnew1.base_le hgr
          obtain ⟨nB, nc2, rfl, -, -, -, hnl1, hnl2⟩ := hoH2.form
          replace hb0 := heap_ext hb0 hx2
          replace hbc := heap_ext hbc hx2
          replace hbV := hbV.ext hx2
          replace hVc := hVc.ext hx2
          replace hWr := hWr.trans hx2
          replace hgr := Nat.le_trans hgr hx2.size
          clear hx hx2 hnew1 hcut hoH hrow hrl HKA HKR HKC HKT HKW HHE hkl1 hkl2
          have nc : ¬ ga = gA := by omega
          have nc' : ¬ gA = ga := by omega
          have f0 : wx.cell? ⟨gA, 0, none⟩ = some (.int .i64 X1.T) := by simp [World.cell?, hbc]
          have f1 : wx.cell? ⟨gA, 1, none⟩ = some (.int .i64 X1.C) := by simp [World.cell?, hbc]
          have f2 : wx.cell? ⟨gA, 2, none⟩ = some (.slice cA cq cc) := by simp [World.cell?, hbc]
          have f3 : wx.cell? ⟨gA, 3, none⟩ = some (.int .u64 X1.R) := by simp [World.cell?, hbc]
          have f4 : wx.cell? ⟨gA, 4, none⟩ = some (.slice cB X1.n cb) := by simp [World.cell?, hbc]
          have f5 : wx.cell? ⟨gA, 5, none⟩ = some (.slice cC X1.n cd) := by simp [World.cell?, hbc]
          have e0 : wx.cell? ⟨ga, 0, none⟩ = some (.int .i64 Xj.T) := by simp [World.cell?, hb0]
          have ef0 : wx.frozen? ⟨ga, 0, none⟩ = false := by simp [World.frozen?, hb0]
          have e1 : wx.cell? ⟨ga, 1, none⟩ = some (.int .i64 Xj.C) := by simp [World.cell?, hb0]
          have ef1 : wx.frozen? ⟨ga, 1, none⟩ = false := by simp [World.frozen?, hb0]
          have e2 : wx.cell? ⟨ga, 2, none⟩ = some (.slice bA bq bc) := by simp [World.cell?, hb0]
          have ef2 : wx.frozen? ⟨ga, 2, none⟩ = false := by simp [World.frozen?, hb0]
          have e3 : wx.cell? ⟨ga, 3, none⟩ = some (.int .u64 Xj.R) := by simp [World.cell?, hb0]
          have ef3 : wx.frozen? ⟨ga, 3, none⟩ = false := by simp [World.frozen?, hb0]
          have e4 : wx.cell? ⟨ga, 4, none⟩ = some (.slice bB Xj.n bb) := by simp [World.cell?, hb0]
          have ef4 : wx.frozen? ⟨ga, 4, none⟩ = false := by simp [World.frozen?, hb0]
          have e5 : wx.cell? ⟨ga, 5, none⟩ = some (.slice bC Xj.n bd) := by simp [World.cell?, hb0]
          have ef5 : wx.frozen? ⟨ga, 5, none⟩ = false := by simp [World.frozen?, hb0]
          go_wp2
          have hb0_ : ((((((wx.setCell ⟨ga, 0, none⟩ (.int .i64 X1.T)).setCell ⟨ga, 1, none⟩ (.int .i64 X1.C)).setCell ⟨ga, 2, none⟩ (.slice cA cq cc)).setCell ⟨ga, 3, none⟩ (.int .u64 X1.R)).setCell ⟨ga, 4, none⟩ (.slice cB X1.n cb)).setCell ⟨ga, 5, none⟩ (.slice cC X1.n cd)).heap[ga]? = some (.cells #[.int .i64 X1.T, .int .i64 X1.C, .slice cA cq cc, .int .u64 X1.R, .slice cB X1.n cb, .slice cC X1.n cd] 51 (0, 0)) := setAll_all (vs := [.int .i64 X1.T, .int .i64 X1.C, .slice cA cq cc, .int .u64 X1.R, .slice cB X1.n cb, .slice cC X1.n cd]) hb0 rfl
          have hWs_ : Ext w ((((((wx.setCell ⟨ga, 0, none⟩ (.int .i64 X1.T)).setCell ⟨ga, 1, none⟩ (.int .i64 X1.C)).setCell ⟨ga, 2, none⟩ (.slice cA cq cc)).setCell ⟨ga, 3, none⟩ (.int .u64 X1.R)).setCell ⟨ga, 4, none⟩ (.slice cB X1.n cb)).setCell ⟨ga, 5, none⟩ (.slice cC X1.n cd)) := setAll_ext (g := ga) (vs := [.int .i64 X1.T, .int .i64 X1.C, .slice cA cq cc, .int .u64 X1.R, .slice cB X1.n cb, .slice cC X1.n cd]) (i := 0) hWr hls
          have hk_ : ∀ g, g ≠ ga → ((((((wx.setCell ⟨ga, 0, none⟩ (.int .i64 X1.T)).setCell ⟨ga, 1, none⟩ (.int .i64 X1.C)).setCell ⟨ga, 2, none⟩ (.slice cA cq cc)).setCell ⟨ga, 3, none⟩ (.int .u64 X1.R)).setCell ⟨ga, 4, none⟩ (.slice cB X1.n cb)).setCell ⟨ga, 5, none⟩ (.slice cC X1.n cd)).heap[g]? = wx.heap[g]? := fun g hg => setAll_other (g := ga) (k := g) hg [.int .i64 X1.T, .int .i64 X1.C, .slice cA cq cc, .int .u64 X1.R, .slice cB X1.n cb, .slice cC X1.n cd] 0 wx
          have hVc_ := hVc.but hk1.2.2 (But.all ga [.int .i64 X1.T, .int .i64 X1.C, .slice cA cq cc, .int .u64 X1.R, .slice cB X1.n cb, .slice cC X1.n cd] 0 wx) hb0 rfl
          change WldV ((((((wx.setCell ⟨ga, 0, none⟩ (.int .i64 X1.T)).setCell ⟨ga, 1, none⟩ (.int .i64 X1.C)).setCell ⟨ga, 2, none⟩ (.slice cA cq cc)).setCell ⟨ga, 3, none⟩ (.int .u64 X1.R)).setCell ⟨ga, 4, none⟩ (.slice cB X1.n cb)).setCell ⟨ga, 5, none⟩ (.slice cC X1.n cd)) _ _ at hVc_
          have hsz_ : ((((((wx.setCell ⟨ga, 0, none⟩ (.int .i64 X1.T)).setCell ⟨ga, 1, none⟩ (.int .i64 X1.C)).setCell ⟨ga, 2, none⟩ (.slice cA cq cc)).setCell ⟨ga, 3, none⟩ (.int .u64 X1.R)).setCell ⟨ga, 4, none⟩ (.slice cB X1.n cb)).setCell ⟨ga, 5, none⟩ (.slice cC X1.n cd)).heap.size = wx.heap.size := by simp [World.setCell]
          have hoH_ := hoH2.kept (w' := ((((((wx.setCell ⟨ga, 0, none⟩ (.int .i64 X1.T)).setCell ⟨ga, 1, none⟩ (.int .i64 X1.C)).setCell ⟨ga, 2, none⟩ (.slice cA cq cc)).setCell ⟨ga, 3, none⟩ (.int .u64 X1.R)).setCell ⟨ga, 4, none⟩ (.slice cB X1.n cb)).setCell ⟨ga, 5, none⟩ (.slice cC X1.n cd))) (fun g o hb hv ho => (hk_ g (by omega)).trans ho)
          have hgr_ : gs ≤ ((((((wx.setCell ⟨ga, 0, none⟩ (.int .i64 X1.T)).setCell ⟨ga, 1, none⟩ (.int .i64 X1.C)).setCell ⟨ga, 2, none⟩ (.slice cA cq cc)).setCell ⟨ga, 3, none⟩ (.int .u64 X1.R)).setCell ⟨ga, 4, none⟩ (.slice cB X1.n cb)).setCell ⟨ga, 5, none⟩ (.slice cC X1.n cd)).heap.size := by rw [hsz_]; exact hgr
          clear hk_ hsz_ hoH2 hgr hb0 hVc hWr hbc hbV f0 f1 f2 f3 f4 f5 e0 e1 e2 e3 e4 e5 ef0 ef1 ef2 ef3 ef4 ef5
          generalize ((((((wx.setCell ⟨ga, 0, none⟩ (.int .i64 X1.T)).setCell ⟨ga, 1, none⟩ (.int .i64 X1.C)).setCell ⟨ga, 2, none⟩ (.slice cA cq cc)).setCell ⟨ga, 3, none⟩ (.int .u64 X1.R)).setCell ⟨ga, 4, none⟩ (.slice cB X1.n cb)).setCell ⟨ga, 5, none⟩ (.slice cC X1.n cd)) = wg at *
          go_roundw
          case rel => exact ⟨j + 1, X1, S1, row, by go_num, by omega, ⟨_, hb0_, hVc_⟩, hp1, hk1, hhe1, hse1, hsz1, hoH_, hWs_, hgr_⟩
          case measure => simp [intOf]; omega
    all_goals
      try (have hh4 : ((held.length : Int) == 0) = true := beq_iff_eq.2 (by omega)
           have hyB : ((z : Int) % 2 == 0) = false := beq_eq_false_iff_ne.2 hy1
           clear hh1)
      try (have hyB : ((z : Int) % 2 == 0) = true := beq_iff_eq.2 hy1)
      have hlone : S.lone 3 me := fun i hi _ => hsz i hi
      have hal := alloc_spec (me := me) hlone (fun x hx => (hpj.rng x hx).1)
      have hae := alloc_e3 S 3 me
      have hM40 : ((40 + 20 * N : Nat) : Int) = 40 + 20 * (N : Int) := by omega
      obtain ⟨X1, hp1, hk1, hcon⟩ := eal_alloc hpj hkj hme (by omega) (40 + 20 * N) (by omega) (by omega)
      rw [hM40] at hcon
      generalize S.alloc 3 me = q at *
      obtain ⟨S1, r⟩ := q
      obtain ⟨ha1, ha2, ha3⟩ := hal
      replace ha1 : r = 0 → S1.all = [] ∧ S.all = [] := ha1
      replace ha2 : r ≠ 0 → S.all.Perm (r :: S1.all) := ha2
      replace ha3 : S1.lone 3 me := ha3
      replace hae : S1.e ≤ S.e + 3 := hae
      replace hp1 : EpK X1 3 N S1 := hp1
      replace hcon : ∀ (wv : Value) (v d : Int) (w : World), WldV w wv Xj → Calls Try.prog 22 #[wv, .int .i64 (me : Int), .agg #[.int .i64 6, .int .i64 0, .int .i64 v, .int .u64 d], .int .i64 (40 + 20 * (N : Int))] w fun e w' => ∃ v', e = .returned (.tuple #[v', .agg #[.int .i64 0, .bool false, .int .i64 r, .int .u64 0, .slice none 0 0], .bool true]) ∧ WldV w' v' X1 ∧ Ext w w' := hcon
      obtain ⟨X2, hp2, hk2, hcon2⟩ := eal_unpin hp1 hk1 hme 9 (by omega) (by omega)
      rw [show (((9 : Nat) : Int)) = 9 from rfl] at hcon2
      have hse2 : (S1.pin me 0).e ≤ 3 * (j + 1) := by show S1.e ≤ _; omega
      have hsz2 : ∀ i, i < 3 → (S1.pin me 0).P i = 0 := fun i hi => by
        by_cases e : i = me
        · simp [EpS.pin, e]
        · simp [EpS.pin, e]; exact ha3 i hi e
      have hall2 : (S1.pin me 0).all = S1.all := rfl
      generalize S1.pin me 0 = S2 at *
      have hfin : (r = 0 ∧ held.length = N ∧ HE N S2 held) ∨ (r ≠ 0 ∧ held.length < N ∧ 1 ≤ r ∧ r ≤ (N : Int) ∧ r ∉ held ∧ HE N S2 (held ++ [r])) := by
        by_cases hr : r = 0
        · obtain ⟨a1, a2⟩ := ha1 hr
          refine .inl ⟨hr, ?_, hhe.perm (by rw [hall2, a1, a2])⟩
          rw [a2] at hhN; simpa using hhN
        · have hq := ha2 hr
          have ht := hhe.take (S' := S2) (x := r) (by rw [hall2]; exact hq)
          have hl := hq.length_eq
          simp at hl
          have hn := ht.nodup
          have hr2 := ht.rng r (by simp)
          rw [List.nodup_append] at hn
          have hn2 := hn.2.1
          rw [List.nodup_append] at hn2
          exact .inr ⟨hr, by omega, hr2.1, hr2.2, fun hm => hn2.2.2 r hm r (by simp) rfl, ht⟩
      have hCC := hoH.form
      clear ha1 ha2 ha3 hae hse hsz hlone hp1 hhe hall2 hpj
      have e0 : wr.cell? ⟨ga, 0, none⟩ = some (.int .i64 Xj.T) := by simp [World.cell?, hb0]
      have e1 : wr.cell? ⟨ga, 1, none⟩ = some (.int .i64 Xj.C) := by simp [World.cell?, hb0]
      have e2 : wr.cell? ⟨ga, 2, none⟩ = some (.slice bA bq bc) := by simp [World.cell?, hb0]
      have e3 : wr.cell? ⟨ga, 3, none⟩ = some (.int .u64 Xj.R) := by simp [World.cell?, hb0]
      have e4 : wr.cell? ⟨ga, 4, none⟩ = some (.slice bB Xj.n bb) := by simp [World.cell?, hb0]
      have e5 : wr.cell? ⟨ga, 5, none⟩ = some (.slice bC Xj.n bd) := by simp [World.cell?, hb0]
      go_wp2_with fail
      refine (hcon _ _ _ _ hbV).mono ?_
      rintro e w7c ⟨v_, rfl, hVc, hx_⟩
      obtain ⟨cA, cq, cc, cB, cb, cC, cd, rfl⟩ := hVc.form6
      replace hgr := Nat.le_trans hgr hx_.size
      clear e0 e1 e2 e3 e4 e5
      replace hb0 := heap_ext hb0 hx_
      replace hbV := hbV.ext hx_
      replace hoH := hoH.ext hx_
      replace hWr := hWr.trans hx_
      clear hx_
      go_upto_region 13 with (fail)
      obtain ⟨hx_, hbc, hoc⟩ := two_boxes7 w7c (.cells #[.int .i64 X1.T, .int .i64 X1.C, .slice cA cq cc, .int .u64 X1.R, .slice cB X1.n cb, .slice cC X1.n cd] 51) (.cells #[.int .i64 0, .bool false, .int .i64 r, .int .u64 0, .slice none 0 0] 37)
      generalize (w7c.alloc (.cells #[.int .i64 X1.T, .int .i64 X1.C, .slice cA cq cc, .int .u64 X1.R, .slice cB X1.n cb, .slice cC X1.n cd] 51)).alloc (.cells #[.int .i64 0, .bool false, .int .i64 r, .int .u64 0, .slice none 0 0] 37) = W7c at *
      have hgc := hgr
      replace hgr := Nat.le_trans hgr hx_.size
      generalize w7c.heap.size = gc at *
      replace hb0 := heap_ext hb0 hx_
      replace hbV := hbV.ext hx_
      replace hoH := hoH.ext hx_
      replace hVc := hVc.ext hx_
      replace hWr := hWr.trans hx_
      clear hx_
      clear hcon hcz
      have hin0 : ∀ W, Ext W7c W → Cells W hvB (intCells held) := fun W hx => by
        obtain ⟨B, c, e, hC, -⟩ := hoH.form
        cases e
        exact hC.ext hx
      clear hCC
      have hinC := fun W h => rin_any held hvB held.length hvc r W rfl (by omega) h
      have o0 : W7c.cell? ⟨gc + 1, 0, none⟩ = some (.int .i64 0) := by simp [World.cell?, hoc]
      have o1 : W7c.cell? ⟨gc + 1, 1, none⟩ = some (.bool false) := by simp [World.cell?, hoc]
      have o2 : W7c.cell? ⟨gc + 1, 2, none⟩ = some (.int .i64 r) := by simp [World.cell?, hoc]
      have o3 : W7c.cell? ⟨gc + 1, 3, none⟩ = some (.int .u64 0) := by simp [World.cell?, hoc]
      have o4 : W7c.cell? ⟨gc + 1, 4, none⟩ = some (.slice none 0 0) := by simp [World.cell?, hoc]
      rcases hfin with ⟨rfl, hlN0, hhe2⟩ | ⟨hr0', hlN, hr1', hr2', hrn, hhe2⟩
      · have hlB : ((held.length : Int) == (N : Int)) = true := beq_iff_eq.2 (by omega)
        clear hlN0
        have hin : decide ((0 : Int) ∈ held) = false := decide_eq_false fun hm => by
          have := hhe2.rng 0 (by simp [hm])
          omega
        rw [hin] at hinC
        clear hin
        go_wp2_with fail
        refine (hinC _ (hin0 _ (Ext.refl _))).mono ?_
        rintro e w8 ⟨rfl, hx_⟩
        clear hinC hin0
        have hgc2 := hgc
        replace hgr := Nat.le_trans hgr hx_.size
        clear o0 o1 o2 o3 o4
        replace hb0 := heap_ext hb0 hx_
        replace hbc := heap_ext hbc hx_
        replace hoc := heap_ext hoc hx_
        replace hbV := hbV.ext hx_
        replace hoH := hoH.ext hx_
        replace hVc := hVc.ext hx_
        replace hWr := hWr.trans hx_
        clear hx_
        have e0 : w8.cell? ⟨gc, 0, none⟩ = some (.int .i64 X1.T) := by simp [World.cell?, hbc]
        have e1 : w8.cell? ⟨gc, 1, none⟩ = some (.int .i64 X1.C) := by simp [World.cell?, hbc]
        have e2 : w8.cell? ⟨gc, 2, none⟩ = some (.slice cA cq cc) := by simp [World.cell?, hbc]
        have e3 : w8.cell? ⟨gc, 3, none⟩ = some (.int .u64 X1.R) := by simp [World.cell?, hbc]
        have e4 : w8.cell? ⟨gc, 4, none⟩ = some (.slice cB X1.n cb) := by simp [World.cell?, hbc]
        have e5 : w8.cell? ⟨gc, 5, none⟩ = some (.slice cC X1.n cd) := by simp [World.cell?, hbc]
        go_wp2_with fail
        refine (hcon2 _ _ _ _ hVc).mono ?_
        rintro e w7d ⟨v_, rfl, hVd, hx_⟩
        obtain ⟨dA, dq, dc, dB, db, dC, dd, rfl⟩ := hVd.form6
        replace hgr := Nat.le_trans hgr hx_.size
        clear e0 e1 e2 e3 e4 e5
        replace hb0 := heap_ext hb0 hx_
        replace hbc := heap_ext hbc hx_
        replace hoc := heap_ext hoc hx_
        replace hbV := hbV.ext hx_
        replace hoH := hoH.ext hx_
        replace hVc := hVc.ext hx_
        replace hWr := hWr.trans hx_
        clear hx_
        go_upto_region 16 with (fail)
        obtain ⟨hx_, hbd, hod⟩ := two_boxes7 w7d (.cells #[.int .i64 X2.T, .int .i64 X2.C, .slice dA dq dc, .int .u64 X2.R, .slice dB X2.n db, .slice dC X2.n dd] 51) (.cells #[.int .i64 0, .bool false, .int .i64 0, .int .u64 0, .slice none 0 0] 37)
        generalize (w7d.alloc (.cells #[.int .i64 X2.T, .int .i64 X2.C, .slice dA dq dc, .int .u64 X2.R, .slice dB X2.n db, .slice dC X2.n dd] 51)).alloc (.cells #[.int .i64 0, .bool false, .int .i64 0, .int .u64 0, .slice none 0 0] 37) = W7d at *
        have hgd := hgr
        replace hgr := Nat.le_trans hgr hx_.size
        generalize w7d.heap.size = gd at *
        replace hb0 := heap_ext hb0 hx_
        replace hbc := heap_ext hbc hx_
        replace hoc := heap_ext hoc hx_
        replace hbV := hbV.ext hx_
        replace hoH := hoH.ext hx_
        replace hVc := hVc.ext hx_
        replace hVd := hVd.ext hx_
        replace hWr := hWr.trans hx_
        clear hx_
        go_upto_region 18 with (fail)
        have nd : ¬ ga = gd := by omega
        have nd' : ¬ gd = ga := by omega
        clear hcon2
        have f0 : W7d.cell? ⟨gd, 0, none⟩ = some (.int .i64 X2.T) := by simp [World.cell?, hbd]
        have f1 : W7d.cell? ⟨gd, 1, none⟩ = some (.int .i64 X2.C) := by simp [World.cell?, hbd]
        have f2 : W7d.cell? ⟨gd, 2, none⟩ = some (.slice dA dq dc) := by simp [World.cell?, hbd]
        have f3 : W7d.cell? ⟨gd, 3, none⟩ = some (.int .u64 X2.R) := by simp [World.cell?, hbd]
        have f4 : W7d.cell? ⟨gd, 4, none⟩ = some (.slice dB X2.n db) := by simp [World.cell?, hbd]
        have f5 : W7d.cell? ⟨gd, 5, none⟩ = some (.slice dC X2.n dd) := by simp [World.cell?, hbd]
        have e0 : W7d.cell? ⟨ga, 0, none⟩ = some (.int .i64 Xj.T) := by simp [World.cell?, hb0]
        have ef0 : W7d.frozen? ⟨ga, 0, none⟩ = false := by simp [World.frozen?, hb0]
        have e1 : W7d.cell? ⟨ga, 1, none⟩ = some (.int .i64 Xj.C) := by simp [World.cell?, hb0]
        have ef1 : W7d.frozen? ⟨ga, 1, none⟩ = false := by simp [World.frozen?, hb0]
        have e2 : W7d.cell? ⟨ga, 2, none⟩ = some (.slice bA bq bc) := by simp [World.cell?, hb0]
        have ef2 : W7d.frozen? ⟨ga, 2, none⟩ = false := by simp [World.frozen?, hb0]
        have e3 : W7d.cell? ⟨ga, 3, none⟩ = some (.int .u64 Xj.R) := by simp [World.cell?, hb0]
        have ef3 : W7d.frozen? ⟨ga, 3, none⟩ = false := by simp [World.frozen?, hb0]
        have e4 : W7d.cell? ⟨ga, 4, none⟩ = some (.slice bB Xj.n bb) := by simp [World.cell?, hb0]
        have ef4 : W7d.frozen? ⟨ga, 4, none⟩ = false := by simp [World.frozen?, hb0]
        have e5 : W7d.cell? ⟨ga, 5, none⟩ = some (.slice bC Xj.n bd) := by simp [World.cell?, hb0]
        have ef5 : W7d.frozen? ⟨ga, 5, none⟩ = false := by simp [World.frozen?, hb0]
        go_upto_region 19 with (fail)
        have hb0_ : ((((((W7d.setCell ⟨ga, 0, none⟩ (.int .i64 X2.T)).setCell ⟨ga, 1, none⟩ (.int .i64 X2.C)).setCell ⟨ga, 2, none⟩ (.slice dA dq dc)).setCell ⟨ga, 3, none⟩ (.int .u64 X2.R)).setCell ⟨ga, 4, none⟩ (.slice dB X2.n db)).setCell ⟨ga, 5, none⟩ (.slice dC X2.n dd)).heap[ga]? = some (.cells #[.int .i64 X2.T, .int .i64 X2.C, .slice dA dq dc, .int .u64 X2.R, .slice dB X2.n db, .slice dC X2.n dd] 51 (0, 0)) := setAll_all (vs := [.int .i64 X2.T, .int .i64 X2.C, .slice dA dq dc, .int .u64 X2.R, .slice dB X2.n db, .slice dC X2.n dd]) hb0 rfl
        have hWs_ : Ext w ((((((W7d.setCell ⟨ga, 0, none⟩ (.int .i64 X2.T)).setCell ⟨ga, 1, none⟩ (.int .i64 X2.C)).setCell ⟨ga, 2, none⟩ (.slice dA dq dc)).setCell ⟨ga, 3, none⟩ (.int .u64 X2.R)).setCell ⟨ga, 4, none⟩ (.slice dB X2.n db)).setCell ⟨ga, 5, none⟩ (.slice dC X2.n dd)) := setAll_ext (g := ga) (vs := [.int .i64 X2.T, .int .i64 X2.C, .slice dA dq dc, .int .u64 X2.R, .slice dB X2.n db, .slice dC X2.n dd]) (i := 0) hWr hls
        have hk_ : ∀ g, g ≠ ga → ((((((W7d.setCell ⟨ga, 0, none⟩ (.int .i64 X2.T)).setCell ⟨ga, 1, none⟩ (.int .i64 X2.C)).setCell ⟨ga, 2, none⟩ (.slice dA dq dc)).setCell ⟨ga, 3, none⟩ (.int .u64 X2.R)).setCell ⟨ga, 4, none⟩ (.slice dB X2.n db)).setCell ⟨ga, 5, none⟩ (.slice dC X2.n dd)).heap[g]? = W7d.heap[g]? := fun g hg => setAll_other (g := ga) (k := g) hg [.int .i64 X2.T, .int .i64 X2.C, .slice dA dq dc, .int .u64 X2.R, .slice dB X2.n db, .slice dC X2.n dd] 0 W7d
        have hoc_ := (hk_ (gc + 1) (by omega)).trans hoc
        have hVd_ := hVd.but hk2.2.2 (But.all ga [.int .i64 X2.T, .int .i64 X2.C, .slice dA dq dc, .int .u64 X2.R, .slice dB X2.n db, .slice dC X2.n dd] 0 W7d) hb0 rfl
        change WldV ((((((W7d.setCell ⟨ga, 0, none⟩ (.int .i64 X2.T)).setCell ⟨ga, 1, none⟩ (.int .i64 X2.C)).setCell ⟨ga, 2, none⟩ (.slice dA dq dc)).setCell ⟨ga, 3, none⟩ (.int .u64 X2.R)).setCell ⟨ga, 4, none⟩ (.slice dB X2.n db)).setCell ⟨ga, 5, none⟩ (.slice dC X2.n dd)) _ _ at hVd_
        have hsz_ : ((((((W7d.setCell ⟨ga, 0, none⟩ (.int .i64 X2.T)).setCell ⟨ga, 1, none⟩ (.int .i64 X2.C)).setCell ⟨ga, 2, none⟩ (.slice dA dq dc)).setCell ⟨ga, 3, none⟩ (.int .u64 X2.R)).setCell ⟨ga, 4, none⟩ (.slice dB X2.n db)).setCell ⟨ga, 5, none⟩ (.slice dC X2.n dd)).heap.size = W7d.heap.size := by simp [World.setCell]
        have hoH_ := hoH.kept (w' := ((((((W7d.setCell ⟨ga, 0, none⟩ (.int .i64 X2.T)).setCell ⟨ga, 1, none⟩ (.int .i64 X2.C)).setCell ⟨ga, 2, none⟩ (.slice dA dq dc)).setCell ⟨ga, 3, none⟩ (.int .u64 X2.R)).setCell ⟨ga, 4, none⟩ (.slice dB X2.n db)).setCell ⟨ga, 5, none⟩ (.slice dC X2.n dd))) (fun g o hb hv ho => (hk_ g (by omega)).trans ho)
        have hgr_ : gs ≤ ((((((W7d.setCell ⟨ga, 0, none⟩ (.int .i64 X2.T)).setCell ⟨ga, 1, none⟩ (.int .i64 X2.C)).setCell ⟨ga, 2, none⟩ (.slice dA dq dc)).setCell ⟨ga, 3, none⟩ (.int .u64 X2.R)).setCell ⟨ga, 4, none⟩ (.slice dB X2.n db)).setCell ⟨ga, 5, none⟩ (.slice dC X2.n dd)).heap.size := by rw [hsz_]; exact hgr
        clear hk_ hsz_ hoH hgr hb0 hVc hWr hbc hbV hbd hVd hoc hod f0 f1 f2 f3 f4 f5 e0 e1 e2 e3 e4 e5 ef0 ef1 ef2 ef3 ef4 ef5
        generalize ((((((W7d.setCell ⟨ga, 0, none⟩ (.int .i64 X2.T)).setCell ⟨ga, 1, none⟩ (.int .i64 X2.C)).setCell ⟨ga, 2, none⟩ (.slice dA dq dc)).setCell ⟨ga, 3, none⟩ (.int .u64 X2.R)).setCell ⟨ga, 4, none⟩ (.slice dB X2.n db)).setCell ⟨ga, 5, none⟩ (.slice dC X2.n dd)) = wg at *
        have o0 : wg.cell? ⟨gc + 1, 0, none⟩ = some (.int .i64 0) := by simp [World.cell?, hoc_]
        have o1 : wg.cell? ⟨gc + 1, 1, none⟩ = some (.bool false) := by simp [World.cell?, hoc_]
        have o2 : wg.cell? ⟨gc + 1, 2, none⟩ = some (.int .i64 0) := by simp [World.cell?, hoc_]
        have o3 : wg.cell? ⟨gc + 1, 3, none⟩ = some (.int .u64 0) := by simp [World.cell?, hoc_]
        have o4 : wg.cell? ⟨gc + 1, 4, none⟩ = some (.slice none 0 0) := by simp [World.cell?, hoc_]
        go_wp2
        go_roundw
        case rel => exact ⟨j + 1, X2, S2, held, by go_num, by omega, ⟨_, hb0_, hVd_⟩, hp2, hk2, hhe2, hse2, hsz2, hoH_, hWs_, hgr_⟩
        case measure => simp [intOf]; omega
      · have hlD : ¬ (held.length : Int) = (N : Int) := by omega
        have hlB : ((held.length : Int) == (N : Int)) = false := beq_eq_false_iff_ne.2 hlD
        have hrB : (r == 0) = false := beq_eq_false_iff_ne.2 hr0'
        have hrl0 : ¬ r < 0 := by omega
        have hrlN : ¬ (N : Int) < r := by omega
        have hrp : (0 : Int) < r := by omega
        have hin : decide (r ∈ held) = false := decide_eq_false hrn
        rw [hin] at hinC
        clear hin
        go_wp2_with fail
        refine (hinC _ (hin0 _ (Ext.refl _))).mono ?_
        rintro e w8 ⟨rfl, hx_⟩
        clear hinC hin0
        have hgc2 := hgc
        replace hgr := Nat.le_trans hgr hx_.size
        clear o0 o1 o2 o3 o4
        replace hb0 := heap_ext hb0 hx_
        replace hbc := heap_ext hbc hx_
        replace hoc := heap_ext hoc hx_
        replace hbV := hbV.ext hx_
        replace hoH := hoH.ext hx_
        replace hVc := hVc.ext hx_
        replace hWr := hWr.trans hx_
        clear hx_
        have e0 : w8.cell? ⟨gc, 0, none⟩ = some (.int .i64 X1.T) := by simp [World.cell?, hbc]
        have e1 : w8.cell? ⟨gc, 1, none⟩ = some (.int .i64 X1.C) := by simp [World.cell?, hbc]
        have e2 : w8.cell? ⟨gc, 2, none⟩ = some (.slice cA cq cc) := by simp [World.cell?, hbc]
        have e3 : w8.cell? ⟨gc, 3, none⟩ = some (.int .u64 X1.R) := by simp [World.cell?, hbc]
        have e4 : w8.cell? ⟨gc, 4, none⟩ = some (.slice cB X1.n cb) := by simp [World.cell?, hbc]
        have e5 : w8.cell? ⟨gc, 5, none⟩ = some (.slice cC X1.n cd) := by simp [World.cell?, hbc]
        go_wp2_with fail
        refine (hcon2 _ _ _ _ hVc).mono ?_
        rintro e w7d ⟨v_, rfl, hVd, hx_⟩
        obtain ⟨dA, dq, dc, dB, db, dC, dd, rfl⟩ := hVd.form6
        replace hgr := Nat.le_trans hgr hx_.size
        clear e0 e1 e2 e3 e4 e5
        replace hb0 := heap_ext hb0 hx_
        replace hbc := heap_ext hbc hx_
        replace hoc := heap_ext hoc hx_
        replace hbV := hbV.ext hx_
        replace hoH := hoH.ext hx_
        replace hVc := hVc.ext hx_
        replace hWr := hWr.trans hx_
        clear hx_
        go_upto_region 16 with (fail)
        obtain ⟨hx_, hbd, hod⟩ := two_boxes7 w7d (.cells #[.int .i64 X2.T, .int .i64 X2.C, .slice dA dq dc, .int .u64 X2.R, .slice dB X2.n db, .slice dC X2.n dd] 51) (.cells #[.int .i64 0, .bool false, .int .i64 0, .int .u64 0, .slice none 0 0] 37)
        generalize (w7d.alloc (.cells #[.int .i64 X2.T, .int .i64 X2.C, .slice dA dq dc, .int .u64 X2.R, .slice dB X2.n db, .slice dC X2.n dd] 51)).alloc (.cells #[.int .i64 0, .bool false, .int .i64 0, .int .u64 0, .slice none 0 0] 37) = W7d at *
        have hgd := hgr
        replace hgr := Nat.le_trans hgr hx_.size
        generalize w7d.heap.size = gd at *
        replace hb0 := heap_ext hb0 hx_
        replace hbc := heap_ext hbc hx_
        replace hoc := heap_ext hoc hx_
        replace hbV := hbV.ext hx_
        replace hoH := hoH.ext hx_
        replace hVc := hVc.ext hx_
        replace hVd := hVd.ext hx_
        replace hWr := hWr.trans hx_
        clear hx_
        go_upto_region 18 with (fail)
        have nd : ¬ ga = gd := by omega
        have nd' : ¬ gd = ga := by omega
        clear hcon2
        have f0 : W7d.cell? ⟨gd, 0, none⟩ = some (.int .i64 X2.T) := by simp [World.cell?, hbd]
        have f1 : W7d.cell? ⟨gd, 1, none⟩ = some (.int .i64 X2.C) := by simp [World.cell?, hbd]
        have f2 : W7d.cell? ⟨gd, 2, none⟩ = some (.slice dA dq dc) := by simp [World.cell?, hbd]
        have f3 : W7d.cell? ⟨gd, 3, none⟩ = some (.int .u64 X2.R) := by simp [World.cell?, hbd]
        have f4 : W7d.cell? ⟨gd, 4, none⟩ = some (.slice dB X2.n db) := by simp [World.cell?, hbd]
        have f5 : W7d.cell? ⟨gd, 5, none⟩ = some (.slice dC X2.n dd) := by simp [World.cell?, hbd]
        have e0 : W7d.cell? ⟨ga, 0, none⟩ = some (.int .i64 Xj.T) := by simp [World.cell?, hb0]
        have ef0 : W7d.frozen? ⟨ga, 0, none⟩ = false := by simp [World.frozen?, hb0]
        have e1 : W7d.cell? ⟨ga, 1, none⟩ = some (.int .i64 Xj.C) := by simp [World.cell?, hb0]
        have ef1 : W7d.frozen? ⟨ga, 1, none⟩ = false := by simp [World.frozen?, hb0]
        have e2 : W7d.cell? ⟨ga, 2, none⟩ = some (.slice bA bq bc) := by simp [World.cell?, hb0]
        have ef2 : W7d.frozen? ⟨ga, 2, none⟩ = false := by simp [World.frozen?, hb0]
        have e3 : W7d.cell? ⟨ga, 3, none⟩ = some (.int .u64 Xj.R) := by simp [World.cell?, hb0]
        have ef3 : W7d.frozen? ⟨ga, 3, none⟩ = false := by simp [World.frozen?, hb0]
        have e4 : W7d.cell? ⟨ga, 4, none⟩ = some (.slice bB Xj.n bb) := by simp [World.cell?, hb0]
        have ef4 : W7d.frozen? ⟨ga, 4, none⟩ = false := by simp [World.frozen?, hb0]
        have e5 : W7d.cell? ⟨ga, 5, none⟩ = some (.slice bC Xj.n bd) := by simp [World.cell?, hb0]
        have ef5 : W7d.frozen? ⟨ga, 5, none⟩ = false := by simp [World.frozen?, hb0]
        go_upto_region 19 with (fail)
        have hb0_ : ((((((W7d.setCell ⟨ga, 0, none⟩ (.int .i64 X2.T)).setCell ⟨ga, 1, none⟩ (.int .i64 X2.C)).setCell ⟨ga, 2, none⟩ (.slice dA dq dc)).setCell ⟨ga, 3, none⟩ (.int .u64 X2.R)).setCell ⟨ga, 4, none⟩ (.slice dB X2.n db)).setCell ⟨ga, 5, none⟩ (.slice dC X2.n dd)).heap[ga]? = some (.cells #[.int .i64 X2.T, .int .i64 X2.C, .slice dA dq dc, .int .u64 X2.R, .slice dB X2.n db, .slice dC X2.n dd] 51 (0, 0)) := setAll_all (vs := [.int .i64 X2.T, .int .i64 X2.C, .slice dA dq dc, .int .u64 X2.R, .slice dB X2.n db, .slice dC X2.n dd]) hb0 rfl
        have hWs_ : Ext w ((((((W7d.setCell ⟨ga, 0, none⟩ (.int .i64 X2.T)).setCell ⟨ga, 1, none⟩ (.int .i64 X2.C)).setCell ⟨ga, 2, none⟩ (.slice dA dq dc)).setCell ⟨ga, 3, none⟩ (.int .u64 X2.R)).setCell ⟨ga, 4, none⟩ (.slice dB X2.n db)).setCell ⟨ga, 5, none⟩ (.slice dC X2.n dd)) := setAll_ext (g := ga) (vs := [.int .i64 X2.T, .int .i64 X2.C, .slice dA dq dc, .int .u64 X2.R, .slice dB X2.n db, .slice dC X2.n dd]) (i := 0) hWr hls
        have hk_ : ∀ g, g ≠ ga → ((((((W7d.setCell ⟨ga, 0, none⟩ (.int .i64 X2.T)).setCell ⟨ga, 1, none⟩ (.int .i64 X2.C)).setCell ⟨ga, 2, none⟩ (.slice dA dq dc)).setCell ⟨ga, 3, none⟩ (.int .u64 X2.R)).setCell ⟨ga, 4, none⟩ (.slice dB X2.n db)).setCell ⟨ga, 5, none⟩ (.slice dC X2.n dd)).heap[g]? = W7d.heap[g]? := fun g hg => setAll_other (g := ga) (k := g) hg [.int .i64 X2.T, .int .i64 X2.C, .slice dA dq dc, .int .u64 X2.R, .slice dB X2.n db, .slice dC X2.n dd] 0 W7d
        have hoc_ := (hk_ (gc + 1) (by omega)).trans hoc
        have hVd_ := hVd.but hk2.2.2 (But.all ga [.int .i64 X2.T, .int .i64 X2.C, .slice dA dq dc, .int .u64 X2.R, .slice dB X2.n db, .slice dC X2.n dd] 0 W7d) hb0 rfl
        change WldV ((((((W7d.setCell ⟨ga, 0, none⟩ (.int .i64 X2.T)).setCell ⟨ga, 1, none⟩ (.int .i64 X2.C)).setCell ⟨ga, 2, none⟩ (.slice dA dq dc)).setCell ⟨ga, 3, none⟩ (.int .u64 X2.R)).setCell ⟨ga, 4, none⟩ (.slice dB X2.n db)).setCell ⟨ga, 5, none⟩ (.slice dC X2.n dd)) _ _ at hVd_
        have hsz_ : ((((((W7d.setCell ⟨ga, 0, none⟩ (.int .i64 X2.T)).setCell ⟨ga, 1, none⟩ (.int .i64 X2.C)).setCell ⟨ga, 2, none⟩ (.slice dA dq dc)).setCell ⟨ga, 3, none⟩ (.int .u64 X2.R)).setCell ⟨ga, 4, none⟩ (.slice dB X2.n db)).setCell ⟨ga, 5, none⟩ (.slice dC X2.n dd)).heap.size = W7d.heap.size := by simp [World.setCell]
        have hoH_ := hoH.kept (w' := ((((((W7d.setCell ⟨ga, 0, none⟩ (.int .i64 X2.T)).setCell ⟨ga, 1, none⟩ (.int .i64 X2.C)).setCell ⟨ga, 2, none⟩ (.slice dA dq dc)).setCell ⟨ga, 3, none⟩ (.int .u64 X2.R)).setCell ⟨ga, 4, none⟩ (.slice dB X2.n db)).setCell ⟨ga, 5, none⟩ (.slice dC X2.n dd))) (fun g o hb hv ho => (hk_ g (by omega)).trans ho)
        have hgr_ : gs ≤ ((((((W7d.setCell ⟨ga, 0, none⟩ (.int .i64 X2.T)).setCell ⟨ga, 1, none⟩ (.int .i64 X2.C)).setCell ⟨ga, 2, none⟩ (.slice dA dq dc)).setCell ⟨ga, 3, none⟩ (.int .u64 X2.R)).setCell ⟨ga, 4, none⟩ (.slice dB X2.n db)).setCell ⟨ga, 5, none⟩ (.slice dC X2.n dd)).heap.size := by rw [hsz_]; exact hgr
        clear hk_ hsz_ hoH hgr hb0 hVc hWr hbc hbV hbd hVd hoc hod f0 f1 f2 f3 f4 f5 e0 e1 e2 e3 e4 e5 ef0 ef1 ef2 ef3 ef4 ef5
        generalize ((((((W7d.setCell ⟨ga, 0, none⟩ (.int .i64 X2.T)).setCell ⟨ga, 1, none⟩ (.int .i64 X2.C)).setCell ⟨ga, 2, none⟩ (.slice dA dq dc)).setCell ⟨ga, 3, none⟩ (.int .u64 X2.R)).setCell ⟨ga, 4, none⟩ (.slice dB X2.n db)).setCell ⟨ga, 5, none⟩ (.slice dC X2.n dd)) = wg at *
        have o0 : wg.cell? ⟨gc + 1, 0, none⟩ = some (.int .i64 0) := by simp [World.cell?, hoc_]
        have o1 : wg.cell? ⟨gc + 1, 1, none⟩ = some (.bool false) := by simp [World.cell?, hoc_]
        have o2 : wg.cell? ⟨gc + 1, 2, none⟩ = some (.int .i64 r) := by simp [World.cell?, hoc_]
        have o3 : wg.cell? ⟨gc + 1, 3, none⟩ = some (.int .u64 0) := by simp [World.cell?, hoc_]
        have o4 : wg.cell? ⟨gc + 1, 4, none⟩ = some (.slice none 0 0) := by simp [World.cell?, hoc_]
        have hWn : Ext wg (wg.alloc (.cells #[.int .i64 r] 3)) := (Below.refl _ wg).alloc (Nat.le_refl _) _
        have hcn : ∀ (i : Nat) (u : Value), (intCells [r])[i]? = some u → (wg.alloc (.cells #[.int .i64 r] 3)).cell? ((⟨wg.heap.size, 0, none⟩ : Addr).add i) = some u := heap_cells (heap_alloc_new wg _)
        have hown2 := hoH_.ext hWn
        go_wp2_with (at_builtin; go_loud (refine wpList_append_int rfl (.tmp 109) (.tmp 112) _ rfl gs i0 Try.underlying35 hi0 hz0 hz1 hz2 _ held.length held rfl hown2 ⟨wg.heap.size, 0, none⟩ 1 1 [r] rfl (by intro _; omega) rfl hcn (by omega) (Nat.le_trans hgr_ hWn.size) ?_); intro v2 w9 hown5 hg5 hob5)
        have hW5 := grownI_ext hown2 hg5 (hWs_.trans hWn) hls2
        have hb5 := grownI_heap hown2 hg5 (hown2.low hlg) (heap_ext hb0_ hWn)
        have hV5 := WldV.grownI hown2 hg5 (hVd_.ext hWn) hk2.2.2
        have hgr5 : gs ≤ w9.heap.size := Nat.le_trans hgr_ (Nat.le_trans hWn.size hg5.size)
        have hown6 : IntOwn w9 gs v2 (held ++ [r]).length (held ++ [r]) := by simpa using hown5
        clear hown2 hg5 hob5 hcn hWn hoH_ hown5 hb0_ hVd_ hgr_ hWs_
        go_roundw
        case rel => exact ⟨j + 1, X2, S2, held ++ [r], by go_num, by omega, ⟨_, hb5, hV5⟩, hp2, hk2, hhe2, hse2, hsz2, hown6, hW5, hgr5⟩
        case measure => simp [intOf]; omega
set_option maxRecDepth 100000 in
theorem EpochAlone_lifted (os : Os) (started : os.Started) (H : Type) (enc : TypeId × Value → H) :
    ReturnsInHanded {} Try.checked os 4 .any (Rows.epochAloneSpec.pre6 enc Try.prog Try.f4 Rows.epochAloneRow.domain false) (Rows.epochAloneSpec.post enc Try.prog Try.f4 false true false false) := by
  refine law_row os started H enc Rows.epochAloneSpec rfl (fun ds h => by
    match ds, h with
    | [_, _], _ => rfl) (by kernel_rfl) Try.func4 rfl
    (by rw [Try.params4]; intro t ht; simp at ht; rcases ht with rfl | rfl <;> exact ⟨by kernel_rfl, of_decide_eq_true (by kernel_rfl)⟩)
    (ChangeSpec.witness6 (enc := enc) (C := Try.checked) false ⟨#[], #[.int .u8 0, .slice none 0 0], []⟩ 8 (by kernel_rfl) (by kernel_rfl) (by kernel_rfl) (by kernel_rfl)) ?_
  intro W base args ds ps hval hA hlt
  rw [Try.params4] at hA hval
  obtain ⟨v0, v1, d0, d1, p0, p1, rfl, rfl, rfl, h0, h1⟩ := trodAll_two hA
  obtain ⟨t, rfl, rfl, rfl, w1⟩ := open_int Try.underlying5 (hval 0 _ v0 rfl rfl) h0
  obtain ⟨M, m, mc, ms, rfl, hM⟩ := open_bytes1 (hval 1 _ v1 rfl rfl) h1
  have b1 := wf_u8 w1
  obtain ⟨tn, rfl⟩ := Int.eq_ofNat_of_zero_le b1.1
  exact ealonelaw_walk tn (by omega) M m mc ms W hM
theorem EpochAlone_holds : Rows.EpochAloneSaid :=
  OpenClaim.holds_of_wide 4 Try.f4 rfl rfl rfl rfl rfl rfl rfl ⟨rfl, rfl, rfl, rfl, rfl⟩ rfl rfl rfl rfl rfl (by kernel_rfl) Try.func4 (by kernel_rfl)
    (of_decide_eq_true (by kernel_rfl)) (by unfold Func.isWrapper; rw [if_neg (of_decide_eq_false (by kernel_rfl))]; exact ⟨rfl, rfl⟩)
    (fun os started H enc _ => EpochAlone_lifted os started H enc)
#print axioms EpochAlone_holds
end Go.Proofs.Ytjokaginolpbeaa
