/- Proved: the law AccessCounts (so many are added, one behind the other, by any threads: each is told the sum of those ahead of it, and the word is the sum of all) returns true at every input and turns none of its arguments. No condition. -/
import Derived.Test.YtennnhfaghdeoaaAccLaw
import Derived.Test.YtennnhfaghdeoaaSureL
namespace Go.Proofs.Ytennnhfaghdeoaa
open Go.ChangeShapes Go.WideShapes Go.ChangeAt Go.RowKit

def cX (s : Int) : WldK := ⟨3, 0, [0, 0, s, 0, 0, 0, 0, 0, 0, 0, 0], 0, 3, [([], 0), ([], 0), ([], 0)], [([], 0), ([], 0), ([], 0)]⟩
theorem cX0 : newW 3 0 = cX 0 := by rfl
theorem cFit (s : Int) : Fit (cX s) 0 := by
  refine ⟨by simp [cX], by simp [cX], by simp [cX], by simp [cX], fun k hk => ?_, fun k hk => ?_⟩
  all_goals
    simp [cX] at hk
    subst hk
    simp
theorem cDo (s me x : Int) : doK (cX s) me ⟨3, 2, x, 0, [], []⟩ true = cX ((s + x) % 18446744073709551616) := by
  rw [doK_word (by simp) (by simp)]; rfl
theorem cR (s x : Int) : doR (cX s) ⟨3, 2, x, 0, [], []⟩ true = ⟨s, [], false⟩ := by
  rw [doR_word (by simp) (by simp)]; rfl
theorem cEnd (s : Int) : doR (cX s) ⟨4, 2, 1, 0, [], []⟩ false = ⟨s, [], false⟩ := by
  rw [doR_word (by simp) (by simp)]; rfl
theorem cForm {w : World} {v : Value} {s : Int} (h : WldV w v (cX s)) : ∃ (A : Option Addr) (q c : Nat) (B C : Option Addr) (b d : Nat), v = .agg #[.int .i64 3, .int .i64 0, .slice A q c, .int .u64 0, .slice B 3 b, .slice C 3 d] := by
  obtain ⟨A, q, c, B, C, b, d, rfl, -, -⟩ := h
  exact ⟨A, q, c, B, C, b, d, rfl⟩
def sumL (l : List Int) : Int := l.foldl (fun s x => (s + x) % 18446744073709551616) 0
theorem sumL_rng (l : List Int) : 0 ≤ sumL l ∧ sumL l < 18446744073709551616 := by
  unfold sumL
  rcases List.eq_nil_or_concat l with rfl | ⟨l', x, rfl⟩
  · simp
  · simp; omega
theorem sumL_next {l : List Int} {j : Nat} (h : j < l.length) : sumL (l.take (j + 1)) = (sumL (l.take j) + l.getD j 0) % 18446744073709551616 := by
  have : l.take (j + 1) = l.take j ++ [l.getD j 0] := by rw [List.take_add_one]; simp [h]
  rw [this]; simp [sumL]
theorem bytes_cell {w : World} {A : Option Addr} {n c : Nat} {l : List UInt8} (h : BytesV w A n c l) {i : Nat} (hi : i < n) : ∃ a z, A = some a ∧ w.cell? (a.add i) = some (.int .u8 (z : Nat)) ∧ z < 256 := by
  have hl : i < l.length := by rw [h.len]; exact hi
  obtain ⟨a, ha, hc⟩ := h.cells (fun e => by simp [bytesOf] at e; subst e; simp at hl)
  refine ⟨a, l[i].toNat, ha, hc i _ ?_, l[i].toNat_lt⟩
  simp [bytesOf, hl]
set_option maxRecDepth 100000 in
set_option maxHeartbeats 4000000 in
theorem counts_walk (A : Option Addr) (n c : Nat) (l : List Int) (M : Option Addr) (m k : Nat) (ms : List UInt8) (w : World) (hl : WordsV w A n c l) (hM : BytesV w M m k ms) :
    Calls Try.prog 9 #[.slice A n c, .slice M m k] w fun e w' => e = .returned (.bool true) ∧ Ext w w' := by
  have hnc := Nat.le_trans hl.le hl.cap
  have hmk := Nat.le_trans hM.le hM.cap
  simp only [maxLen] at hnc hmk
  have hlen := hl.len
  have ha1 : ∀ (W : World) (x y z : Int), (Instr.build 42 #[(0, .int .i64 x), (1, .int .i64 y), (2, .int .u64 z)]).run Try.prog W = .ok (.agg #[.int .i64 x, .int .i64 y, .int .u64 z, .int .u64 0, .slice none 0 0, .slice none 0 0]) W := fun _ _ _ _ => by kernel_rfl
  go_enter Try.func9, Try.ntmps9
  go_wp2_with fail
  refine (shown10_any _).mono ?_
  rintro e W1 ⟨rfl, hW⟩
  rcases (Decidable.em (n ≤ 60)).symm with h6 | h6
  · have h6' : (60 : Int) < (n : Int) := by omega
    go_wp2
    go_ret
    exact ⟨rfl, hW⟩
  have h6' : ¬ (60 : Int) < (n : Int) := by omega
  rcases (Decidable.em (n ≤ m)).symm with h7 | h7
  · have h7' : (m : Int) < (n : Int) := by omega
    go_wp2
    go_ret
    exact ⟨rfl, hW⟩
  have h7' : ¬ (m : Int) < (n : Int) := by omega
  go_wp2_with fail
  refine (ranew_yes 3 0 (by omega) (by omega) (by omega) _).mono ?_
  rintro e u0 ⟨v0, rfl, hV0, hx0⟩
  rw [cX0] at hV0
  have hV := hV0
  obtain ⟨xA, xq, xc, xB, xC, xb, xd, rfl, -, -⟩ := hV0
  simp only [cX] at *
  replace hW := hW.trans hx0
  have hgw : w.heap.size ≤ u0.heap.size := hW.size
  go_upto_region 5 with (fail)
  have hx1 : Ext u0 (u0.alloc (.cells #[.int .i64 3, .int .i64 0, .slice xA xq xc, .int .u64 0, .slice xB 3 xb, .slice xC 3 xd] 32)) := (Below.refl _ u0).alloc (Nat.le_refl _) _
  have hb := heap_alloc_new u0 (.cells #[.int .i64 3, .int .i64 0, .slice xA xq xc, .int .u64 0, .slice xB 3 xb, .slice xC 3 xd] 32)
  generalize u0.alloc (.cells #[.int .i64 3, .int .i64 0, .slice xA xq xc, .int .u64 0, .slice xB 3 xb, .slice xC 3 xd] 32) = U0 at *
  generalize u0.heap.size = gw at *
  replace hW := hW.trans hx1
  replace hV := hV.ext hx1
  clear hx0 hx1
  go_wp2
  go_loopw [8, 7] (fun iv sv wr => ∃ (j : Nat) (xA : Option Addr) (xq xc : Nat) (xB xC : Option Addr) (xb xd : Nat), iv = .int .i64 (j : Int) ∧ j ≤ n ∧ sv = .int .u64 (sumL (l.take j)) ∧ Ext w wr ∧ wr.heap[gw]? = some (.cells #[.int .i64 3, .int .i64 0, .slice xA xq xc, .int .u64 0, .slice xB 3 xb, .slice xC 3 xd] 32 (0, 0)) ∧ WldV wr (.agg #[.int .i64 3, .int .i64 0, .slice xA xq xc, .int .u64 0, .slice xB 3 xb, .slice xC 3 xd]) (cX (sumL (l.take j)))) (fun iv _ _ => n - (intOf iv).toNat)
  case atStart => exact ⟨0, _, _, _, _, _, _, _, rfl, Nat.zero_le _, rfl, hW, hb, hV⟩
  case round =>
    obtain ⟨j, yA, yq, yc, yB, yC, yb, yd, rfl, hj, rfl, hWr, hbr, hVr⟩ := hrel
    clear hV hb
    rcases Nat.lt_or_ge j n with hjn | hjn
    · have hjl : j < l.length := by omega
      have hnx := sumL_next hjl
      have hsr := sumL_rng (l.take j)
      generalize sumL (l.take j) = s at *
      obtain ⟨a, rfl, hca, ra1, ra2⟩ := hl.at hjn
      obtain ⟨b, z, rfl, hcb, hz⟩ := bytes_cell hM (i := j) (by omega)
      generalize l.getD j 0 = x at *
      have hzw : IntKind.i64.wrap (z : Int) = (z : Int) := by rw [IntKind.wrap_i64]; omega
      have hzm : Int.tmod (z : Int) 3 = ((z % 3 : Nat) : Int) := by rw [Int.tmod_eq_emod_of_nonneg (by omega)]; omega
      have hjm : j < m := by omega
      have hX : ∀ wx, Ext wr wx → wx.cell? ⟨gw, 0, none⟩ = some (.int .i64 3) ∧ wx.cell? ⟨gw, 1, none⟩ = some (.int .i64 0) ∧ wx.cell? ⟨gw, 2, none⟩ = some (.slice yA yq yc) ∧ wx.cell? ⟨gw, 3, none⟩ = some (.int .u64 0) ∧ wx.cell? ⟨gw, 4, none⟩ = some (.slice yB 3 yb) ∧ wx.cell? ⟨gw, 5, none⟩ = some (.slice yC 3 yd) ∧ wx.cell? (a.add j) = some (.int .u64 x) ∧ wx.cell? (b.add j) = some (.int .u8 (z : Int)) := fun wx hx =>
        ⟨hx.cell (by simp [World.cell?, hbr]), hx.cell (by simp [World.cell?, hbr]), hx.cell (by simp [World.cell?, hbr]), hx.cell (by simp [World.cell?, hbr]), hx.cell (by simp [World.cell?, hbr]), hx.cell (by simp [World.cell?, hbr]), (hWr.trans hx).cell hca, (hWr.trans hx).cell hcb⟩
      go_upto_region 9 with (fail)
      have HBR := Lib.hid hbr
      have HNX := Lib.hid hnx
      clear hbr hnx
      refine' wp_region_late 15 [(13, 32)] ⟨((some 33, [], none) :: (some 34, [], none) :: (some 35, [], none) :: (some 36, [1, 2], none) :: (some 37, [3], none) :: (some 38, [4], none) :: (some 39, [5], none) :: (some 40, [], none) :: (some 41, [], none) :: (some 42, [7, 8], none) :: (some 43, [9], none) :: (some 44, [10], none) :: (some 45, [0, 6, 11], none) :: (some 32, [12], none) :: (some 46, [13], none) :: (some 47, [13], none) :: (some 9, [], none) :: (some 10, [], none) :: (none, [16, 14, 12, 0, 1, 2, 3, 4, 5, 6, 7, 8, 9, 10, 11, 12, 13, 14, 16, 17], none) :: (none, [17, 15, 18, 0, 1, 2, 3, 4, 5, 6, 7, 8, 9, 10, 11, 12, 13, 14, 15, 16, 17, 18], none) :: []), (0 :: 0 :: 0 :: 6 :: 14 :: 30 :: 62 :: 0 :: 0 :: 384 :: 896 :: 1920 :: 4095 :: 8191 :: 16383 :: 16383 :: 0 :: 0 :: 229375 :: 524287 :: []), (true :: true :: true :: true :: true :: true :: true :: true :: true :: true :: true :: true :: false :: false :: false :: false :: true :: true :: []), [], 0⟩ 18 76 ((0, 33) :: (1, 34) :: (2, 35) :: (3, 36) :: (4, 37) :: (5, 38) :: (6, 39) :: (7, 40) :: (8, 41) :: (9, 42) :: (10, 43) :: (11, 44) :: (12, 45) :: (13, 32) :: (14, 46) :: (15, 47) :: (16, 9) :: (17, 10) :: []) ((0, 33) :: (1, 34) :: (2, 35) :: (3, 36) :: (4, 37) :: (5, 38) :: (6, 39) :: (7, 40) :: (8, 41) :: (9, 42) :: (10, 43) :: (11, 44) :: (12, 45) :: (13, 32) :: (14, 46) :: (15, 47) :: (16, 9) :: (17, 10) :: []) (.det _ :: .det _ :: .det _ :: .det _ :: .det _ :: .det _ :: .det _ :: .det _ :: .det _ :: .det _ :: .det _ :: .det _ :: Good.of (fun v w => ∃ v1 r1, v = .tuple #[v1, r1] ∧ WldV w v1 (cX ((s + x) % 18446744073709551616)) ∧ ResV w r1 ⟨s, [], false⟩) (fun v w w' h hx => let ⟨v1, r1, e, h1, h2⟩ := h; ⟨v1, r1, e, h1.ext hx, h2.ext hx⟩) :: Good.of (fun v w => ∃ v1 r1, v = .tuple #[v1, r1] ∧ WldV w v1 (cX ((s + x) % 18446744073709551616)) ∧ ResV w r1 ⟨s, [], false⟩) (fun v w w' h hx => let ⟨v1, r1, e, h1, h2⟩ := h; ⟨v1, r1, e, h1.ext hx, h2.ext hx⟩) :: Good.of (fun v w => WldV w v (cX ((s + x) % 18446744073709551616))) (fun v w w' h hx => h.ext hx) :: Good.of (fun v w => ResV w v ⟨s, [], false⟩) (fun v w w' h hx => h.ext hx) :: Good.box 32 #[.int .i64 0, .int .i64 0, .slice none 0 0, .int .u64 0, .slice none 0 0, .slice none 0 0] wr.heap.size :: Good.box 51 #[.int .u64 0, .slice none 0 0, .bool false] wr.heap.size :: []) (by kernel_rfl) (by kernel_rfl) (by kernel_rfl) rfl (by kernel_rfl) (by kernel_rfl) rfl (by kernel_rfl) (by kernel_rfl) (by kernel_rfl) rfl (fun _ _ _ _ _ h => h) ?hlate ?hone ?hend
      case hlate =>
        intro V hV wx hx ρ hρ hs o ho
        obtain ⟨sn13, -⟩ := hs
        rw [place_at hV (k := 13) rfl] at sn13
        rw [place_at hV (k := 15) rfl]
        obtain rfl := Option.some.inj ho
        obtain ⟨v1, r1, e, h1, h2⟩ := sn13
        refine ⟨r1, fun w'' => ?_, h2⟩
        go_simp
      case hone =>
        intro CS frS VS hCS ha hV
        have qs0 := slot_val (t := 0) ha rfl
        simp only [List.getElem_toArray, List.getElem_cons_succ, List.getElem_cons_zero] at qs0
        have qs1 := slot_val (t := 1) ha rfl
        simp only [List.getElem_toArray, List.getElem_cons_succ, List.getElem_cons_zero] at qs1
        have qs6 := slot_val (t := 6) ha rfl
        simp only [List.getElem_toArray, List.getElem_cons_succ, List.getElem_cons_zero] at qs6
        have qs8 := slot_val (t := 8) ha rfl
        simp only [List.getElem_toArray, List.getElem_cons_succ, List.getElem_cons_zero] at qs8
        have HCS := Lib.hid hCS
        have HVS := Lib.hid hV
        clear ha hCS hV
        -- 0: slot 33 := Op.load 32 t6
        refine sure_det (js := []) (ts := [6]) (gd := none) (place_at HVS.out (k := 0) rfl) (by rw [HCS.out]; kernel_rfl) ?_ ?_
        · intro wx hx ρ hρ hs hf
          have hρc := hρ.const
          have hρf := hρ.func
          obtain ⟨fx6, -⟩ := hf
          rw [qs6] at fx6
          clear hs
          clear HCS HVS qs0 qs1 qs6 qs8
          refine run_plain ?_
          obtain ⟨e0, e1, e2, e3, e4, e5, e6, e7⟩ := hX wx hx.drawn
          unfold runs
          go_simp
          exact detK.mk
        -- 1: slot 34 := Op.move t1
        refine sure_det (js := []) (ts := [1]) (gd := none) (place_at HVS.out (k := 1) rfl) (by rw [HCS.out]; kernel_rfl) ?_ ?_
        · intro wx hx ρ hρ hs hf
          have hρc := hρ.const
          have hρf := hρ.func
          obtain ⟨fx1, -⟩ := hf
          rw [qs1] at fx1
          clear hs
          clear HCS HVS qs0 qs1 qs6 qs8
          refine run_plain ?_
          refine op_move rfl fx1 ?_
          exact detK.mk
        -- 2: slot 35 := Op.move t8
        refine sure_det (js := []) (ts := [8]) (gd := none) (place_at HVS.out (k := 2) rfl) (by rw [HCS.out]; kernel_rfl) ?_ ?_
        · intro wx hx ρ hρ hs hf
          have hρc := hρ.const
          have hρf := hρ.func
          obtain ⟨fx8, -⟩ := hf
          rw [qs8] at fx8
          clear hs
          clear HCS HVS qs0 qs1 qs6 qs8
          refine run_plain ?_
          refine op_move rfl fx8 ?_
          exact detK.mk
        -- 3: slot 36 := Op.indexAddr 40 t34 t35
        refine sure_det (js := [(1, 34), (2, 35)]) (ts := []) (gd := none) (place_at HVS.out (k := 3) rfl) (by rw [HCS.out]; kernel_rfl) ?_ ?_
        · intro wx hx ρ hρ hs hf
          have hρc := hρ.const
          have hρf := hρ.func
          obtain ⟨sn1, sn2, -⟩ := hs
          rw [place_at HVS.out (k := 1) rfl] at sn1
          replace sn1 : ρ (.tmp 34) = _ := sn1
          rw [place_at HVS.out (k := 2) rfl] at sn2
          replace sn2 : ρ (.tmp 35) = _ := sn2
          clear hf
          clear HCS HVS qs0 qs1 qs6 qs8
          refine run_plain ?_
          unfold runs
          go_simp
          exact detK.mk
        -- 4: slot 37 := Op.load 5 t36
        refine sure_det (js := [(3, 36)]) (ts := []) (gd := none) (place_at HVS.out (k := 4) rfl) (by rw [HCS.out]; kernel_rfl) ?_ ?_
        · intro wx hx ρ hρ hs hf
          have hρc := hρ.const
          have hρf := hρ.func
          obtain ⟨sn3, -⟩ := hs
          rw [place_at HVS.out (k := 3) rfl] at sn3
          replace sn3 : ρ (.tmp 36) = _ := sn3
          clear hf
          clear HCS HVS qs0 qs1 qs6 qs8
          refine run_plain ?_
          obtain ⟨e0, e1, e2, e3, e4, e5, e6, e7⟩ := hX wx hx.drawn
          unfold runs
          go_simp
          exact detK.mk
        -- 5: slot 38 := Op.convert 5 3 t37
        refine sure_det (js := [(4, 37)]) (ts := []) (gd := none) (place_at HVS.out (k := 5) rfl) (by rw [HCS.out]; kernel_rfl) ?_ ?_
        · intro wx hx ρ hρ hs hf
          have hρc := hρ.const
          have hρf := hρ.func
          obtain ⟨sn4, -⟩ := hs
          rw [place_at HVS.out (k := 4) rfl] at sn4
          replace sn4 : ρ (.tmp 37) = _ := sn4
          clear hf
          clear HCS HVS qs0 qs1 qs6 qs8
          refine run_plain ?_
          unfold runs
          go_simp
          exact detK.mk
        -- 6: slot 39 := Op.binOp BinOp.rem 3 t38 ((i64 3)) 3
        refine sure_det (js := [(5, 38)]) (ts := []) (gd := none) (place_at HVS.out (k := 6) rfl) (by rw [HCS.out]; kernel_rfl) ?_ ?_
        · intro wx hx ρ hρ hs hf
          have hρc := hρ.const
          have hρf := hρ.func
          obtain ⟨sn5, -⟩ := hs
          rw [place_at HVS.out (k := 5) rfl] at sn5
          replace sn5 : ρ (.tmp 38) = _ := sn5
          clear hf
          clear HCS HVS qs0 qs1 qs6 qs8
          refine run_plain ?_
          unfold runs
          go_simp
          exact detK.mk
        -- 7: slot 40 := Op.move t0
        refine sure_det (js := []) (ts := [0]) (gd := none) (place_at HVS.out (k := 7) rfl) (by rw [HCS.out]; kernel_rfl) ?_ ?_
        · intro wx hx ρ hρ hs hf
          have hρc := hρ.const
          have hρf := hρ.func
          obtain ⟨fx0, -⟩ := hf
          rw [qs0] at fx0
          clear hs
          clear HCS HVS qs0 qs1 qs6 qs8
          refine run_plain ?_
          refine op_move rfl fx0 ?_
          exact detK.mk
        -- 8: slot 41 := Op.move t8
        refine sure_det (js := []) (ts := [8]) (gd := none) (place_at HVS.out (k := 8) rfl) (by rw [HCS.out]; kernel_rfl) ?_ ?_
        · intro wx hx ρ hρ hs hf
          have hρc := hρ.const
          have hρf := hρ.func
          obtain ⟨fx8, -⟩ := hf
          rw [qs8] at fx8
          clear hs
          clear HCS HVS qs0 qs1 qs6 qs8
          refine run_plain ?_
          refine op_move rfl fx8 ?_
          exact detK.mk
        -- 9: slot 42 := Op.indexAddr 23 t40 t41
        refine sure_det (js := [(7, 40), (8, 41)]) (ts := []) (gd := none) (place_at HVS.out (k := 9) rfl) (by rw [HCS.out]; kernel_rfl) ?_ ?_
        · intro wx hx ρ hρ hs hf
          have hρc := hρ.const
          have hρf := hρ.func
          obtain ⟨sn7, sn8, -⟩ := hs
          rw [place_at HVS.out (k := 7) rfl] at sn7
          replace sn7 : ρ (.tmp 40) = _ := sn7
          rw [place_at HVS.out (k := 8) rfl] at sn8
          replace sn8 : ρ (.tmp 41) = _ := sn8
          clear hf
          clear HCS HVS qs0 qs1 qs6 qs8
          refine run_plain ?_
          unfold runs
          go_simp
          exact detK.mk
        -- 10: slot 43 := Op.load 26 t42
        refine sure_det (js := [(9, 42)]) (ts := []) (gd := none) (place_at HVS.out (k := 10) rfl) (by rw [HCS.out]; kernel_rfl) ?_ ?_
        · intro wx hx ρ hρ hs hf
          have hρc := hρ.const
          have hρf := hρ.func
          obtain ⟨sn9, -⟩ := hs
          rw [place_at HVS.out (k := 9) rfl] at sn9
          replace sn9 : ρ (.tmp 42) = _ := sn9
          clear hf
          clear HCS HVS qs0 qs1 qs6 qs8
          refine run_plain ?_
          obtain ⟨e0, e1, e2, e3, e4, e5, e6, e7⟩ := hX wx hx.drawn
          unfold runs
          go_simp
          exact detK.mk
        -- 11: slot 44 := Op.build 42 #[(0, (i64 3)), (1, (i64 2)), (2, t43]
        refine sure_det (js := [(10, 43)]) (ts := []) (gd := none) (place_at HVS.out (k := 11) rfl) (by rw [HCS.out]; kernel_rfl) ?_ ?_
        · intro wx hx ρ hρ hs hf
          have hρc := hρ.const
          have hρf := hρ.func
          obtain ⟨sn10, -⟩ := hs
          rw [place_at HVS.out (k := 10) rfl] at sn10
          replace sn10 : ρ (.tmp 43) = _ := sn10
          clear hf
          clear HCS HVS qs0 qs1 qs6 qs8
          refine run_plain ?_
          unfold runs
          go_simp
          exact detK.mk
        -- 12: slot 45 := Op.call { call ( 20), args := #[t33, t39, t44, (Value.bool true)], argTypes := #[32, 3, 42
        refine sure_op (js := [(0, 33), (6, 39), (11, 44)]) (ts := []) (gd := none) (place_at HVS.out (k := 12) rfl) (by rw [HCS.out]; kernel_rfl) ?_ ?_
        · intro wx hx ρ hρ hs hf
          have hρc := hρ.const
          have hρf := hρ.func
          obtain ⟨sn0, sn6, sn11, -⟩ := hs
          rw [place_at HVS.out (k := 0) rfl] at sn0
          replace sn0 : ρ (.tmp 33) = _ := sn0
          rw [place_at HVS.out (k := 6) rfl] at sn6
          replace sn6 : ρ (.tmp 39) = _ := sn6
          rw [place_at HVS.out (k := 11) rfl] at sn11
          replace sn11 : ρ (.tmp 44) = _ := sn11
          clear hf
          clear HCS HVS qs0 qs1 qs6 qs8
          refine run_plain ?_
          refine op_call rfl hρ Try.call20 (map_four sn0 sn6 sn11 (hρ.const _)) ?_
          refine Calls.mono (do_all _ _ (cX s) _ ⟨3, 2, x, 0, [], []⟩ true _ (hVr.ext hx.drawn) ⟨none, 0, 0, none, 0, 0, rfl, bytes_nil _, words_nil _, ⟨ra1, ra2⟩, by simp⟩ (useM_word (A := ⟨3, 2, x, 0, [], []⟩) (by simp) ▸ cFit s)) ?_
          rintro e w' ⟨v1, r1, rfl, h1, h2, hx5⟩
          rw [cDo] at h1
          rw [cR] at h2
          exact ⟨_, rfl, hx5, v1, r1, rfl, h1, h2⟩
        -- 13: slot 32 := Op.move t45
        refine sure_op (js := [(12, 45)]) (ts := []) (gd := none) (place_at HVS.out (k := 13) rfl) (by rw [HCS.out]; kernel_rfl) ?_ ?_
        · intro wx hx ρ hρ hs hf
          have hρc := hρ.const
          have hρf := hρ.func
          obtain ⟨sn12, -⟩ := hs
          rw [place_at HVS.out (k := 12) rfl] at sn12
          replace sn12 : ∃ v1 r1, (ρ (.tmp 45)) = .tuple #[v1, r1] ∧ WldV wx v1 (cX ((s + x) % 18446744073709551616)) ∧ ResV wx r1 ⟨s, [], false⟩ := sn12
          clear hf
          clear HCS HVS qs0 qs1 qs6 qs8
          refine run_plain ?_
          refine op_move rfl rfl ?_
          exact ⟨Ext.refl _, sn12⟩
        -- 14: slot 46 := Op.extract t32 0
        refine sure_op (js := [(13, 32)]) (ts := []) (gd := none) (place_at HVS.out (k := 14) rfl) (by rw [HCS.out]; kernel_rfl) ?_ ?_
        · intro wx hx ρ hρ hs hf
          have hρc := hρ.const
          have hρf := hρ.func
          obtain ⟨sn13, -⟩ := hs
          rw [place_at HVS.out (k := 13) rfl] at sn13
          replace sn13 : ∃ v1 r1, (ρ (.tmp 32)) = .tuple #[v1, r1] ∧ WldV wx v1 (cX ((s + x) % 18446744073709551616)) ∧ ResV wx r1 ⟨s, [], false⟩ := sn13
          clear hf
          clear HCS HVS qs0 qs1 qs6 qs8
          refine run_plain ?_
          obtain ⟨v1, r1, e, h1, h2⟩ := sn13
          unfold runs
          go_simp
          exact ⟨Ext.refl _, h1⟩
        -- 15: slot 47 := Op.extract t32 1
        refine sure_op (js := [(13, 32)]) (ts := []) (gd := none) (place_at HVS.out (k := 15) rfl) (by rw [HCS.out]; kernel_rfl) ?_ ?_
        · intro wx hx ρ hρ hs hf
          have hρc := hρ.const
          have hρf := hρ.func
          obtain ⟨sn13, -⟩ := hs
          rw [place_at HVS.out (k := 13) rfl] at sn13
          replace sn13 : ∃ v1 r1, (ρ (.tmp 32)) = .tuple #[v1, r1] ∧ WldV wx v1 (cX ((s + x) % 18446744073709551616)) ∧ ResV wx r1 ⟨s, [], false⟩ := sn13
          clear hf
          clear HCS HVS qs0 qs1 qs6 qs8
          refine run_plain ?_
          obtain ⟨v1, r1, e, h1, h2⟩ := sn13
          unfold runs
          go_simp
          exact ⟨Ext.refl _, h2⟩
        -- 16: slot 9 := Op.alloc 32
        refine sure_op (js := []) (ts := []) (gd := none) (place_at HVS.out (k := 16) rfl) (by rw [HCS.out]; kernel_rfl) ?_ ?_
        · intro wx hx ρ hρ hs hf
          have hρc := hρ.const
          have hρf := hρ.func
          clear hs
          clear hf
          clear HCS HVS qs0 qs1 qs6 qs8
          refine run_plain ?_
          refine op_alloc rfl (Try.zeroValue32 _) ?_
          exact ⟨Ext.refl _ |>.alloc (Nat.le_refl _) _, wx.heap.size, rfl, hx.size, heap_alloc_new wx _⟩
        -- 17: slot 10 := Op.alloc 51
        refine sure_op (js := []) (ts := []) (gd := none) (place_at HVS.out (k := 17) rfl) (by rw [HCS.out]; kernel_rfl) ?_ ?_
        · intro wx hx ρ hρ hs hf
          have hρc := hρ.const
          have hρf := hρ.func
          clear hs
          clear hf
          clear HCS HVS qs0 qs1 qs6 qs8
          refine run_plain ?_
          refine op_alloc rfl (Try.zeroValue51 _) ?_
          exact ⟨Ext.refl _ |>.alloc (Nat.le_refl _) _, wx.heap.size, rfl, hx.size, heap_alloc_new wx _⟩
        exact trivial
      case hend =>
        intro xs wx hx hg
        have gk0 : xs 0 = _ := goods_get hg (i := 0) (j := 0) (d := 33) rfl
        have gk1 : xs 1 = _ := goods_get hg (i := 1) (j := 1) (d := 34) rfl
        have gk2 : xs 2 = _ := goods_get hg (i := 2) (j := 2) (d := 35) rfl
        have gk3 : xs 3 = _ := goods_get hg (i := 3) (j := 3) (d := 36) rfl
        have gk4 : xs 4 = _ := goods_get hg (i := 4) (j := 4) (d := 37) rfl
        have gk5 : xs 5 = _ := goods_get hg (i := 5) (j := 5) (d := 38) rfl
        have gk6 : xs 6 = _ := goods_get hg (i := 6) (j := 6) (d := 39) rfl
        have gk7 : xs 7 = _ := goods_get hg (i := 7) (j := 7) (d := 40) rfl
        have gk8 : xs 8 = _ := goods_get hg (i := 8) (j := 8) (d := 41) rfl
        have gk9 : xs 9 = _ := goods_get hg (i := 9) (j := 9) (d := 42) rfl
        have gk10 : xs 10 = _ := goods_get hg (i := 10) (j := 10) (d := 43) rfl
        have gk11 : xs 11 = _ := goods_get hg (i := 11) (j := 11) (d := 44) rfl
        have gk12 : ∃ v1 r1, (xs 12) = .tuple #[v1, r1] ∧ WldV wx v1 (cX ((s + x) % 18446744073709551616)) ∧ ResV wx r1 ⟨s, [], false⟩ := goods_get hg (i := 12) (j := 12) (d := 45) rfl
        have gk13 : ∃ v1 r1, (xs 13) = .tuple #[v1, r1] ∧ WldV wx v1 (cX ((s + x) % 18446744073709551616)) ∧ ResV wx r1 ⟨s, [], false⟩ := goods_get hg (i := 13) (j := 13) (d := 32) rfl
        have gk14 : WldV wx (xs 14) (cX ((s + x) % 18446744073709551616)) := goods_get hg (i := 14) (j := 14) (d := 46) rfl
        have gk15 : ResV wx (xs 15) ⟨s, [], false⟩ := goods_get hg (i := 15) (j := 15) (d := 47) rfl
        have gk16 : boxG 32 #[.int .i64 0, .int .i64 0, .slice none 0 0, .int .u64 0, .slice none 0 0, .slice none 0 0] wr.heap.size (xs 16) wx := goods_get hg (i := 16) (j := 16) (d := 9) rfl
        have gk17 : boxG 51 #[.int .u64 0, .slice none 0 0, .bool false] wr.heap.size (xs 17) wx := goods_get hg (i := 17) (j := 17) (d := 10) rfl
        clear hg
        simp only [putAll, gk0, gk1, gk2, gk3, gk4, gk5, gk6, gk7, gk8, gk9, gk10, gk11]
        clear gk0 gk1 gk2 gk3 gk4 gk5 gk6 gk7 gk8 gk9 gk10 gk11
        generalize xs 12 = vx12 at gk12 ⊢
        generalize xs 13 = vx13 at gk13 ⊢
        generalize xs 14 = vx14 at gk14 ⊢
        generalize xs 15 = vx15 at gk15 ⊢
        generalize xs 16 = vx16 at gk16 ⊢
        generalize xs 17 = vx17 at gk17 ⊢
        clear xs
        simp only [Act.put, List.setIfInBounds_toArray, List.set_cons_zero, List.set_cons_succ, List.drop_succ_cons, List.drop_zero]
        obtain ⟨gA, rfl, hgA, hcA⟩ := gk16
        obtain ⟨gB, rfl, hgB, hcB⟩ := gk17
        have hv1 := gk14
        have hr1 := gk15
        obtain ⟨zA, zq, zc, zB, zC, zb, zd, rfl⟩ := cForm gk14
        clear gk14
        obtain ⟨yS, ys, yt, rfl, -⟩ := gk15
        clear gk12 gk13
        have hne : gA ≠ gB := fun e => by subst e; rw [hcA] at hcB; cases hcB
        have hE2 : Ext wr (((((((((wx.setCell ⟨gA, 0, none⟩ (.int .i64 3)).setCell ⟨gA, 1, none⟩ (.int .i64 0)).setCell ⟨gA, 2, none⟩ (.slice zA zq zc)).setCell ⟨gA, 3, none⟩ (.int .u64 0)).setCell ⟨gA, 4, none⟩ (.slice zB 3 zb)).setCell ⟨gA, 5, none⟩ (.slice zC 3 zd)).setCell ⟨gB, 0, none⟩ (.int .u64 s)).setCell ⟨gB, 1, none⟩ (.slice yS ys yt)).setCell ⟨gB, 2, none⟩ (.bool false)) := setAll_ext (g := gB) (vs := [.int .u64 s, .slice yS ys yt, .bool false]) (i := 0) (setAll_ext (g := gA) (vs := [.int .i64 3, .int .i64 0, .slice zA zq zc, .int .u64 0, .slice zB 3 zb, .slice zC 3 zd]) (i := 0) hx.drawn hgA) hgB
        have hfA : (((((((((wx.setCell ⟨gA, 0, none⟩ (.int .i64 3)).setCell ⟨gA, 1, none⟩ (.int .i64 0)).setCell ⟨gA, 2, none⟩ (.slice zA zq zc)).setCell ⟨gA, 3, none⟩ (.int .u64 0)).setCell ⟨gA, 4, none⟩ (.slice zB 3 zb)).setCell ⟨gA, 5, none⟩ (.slice zC 3 zd)).setCell ⟨gB, 0, none⟩ (.int .u64 s)).setCell ⟨gB, 1, none⟩ (.slice yS ys yt)).setCell ⟨gB, 2, none⟩ (.bool false)).heap[gA]? = some (.cells #[.int .i64 3, .int .i64 0, .slice zA zq zc, .int .u64 0, .slice zB 3 zb, .slice zC 3 zd] 32 (0, 0)) := (setAll_other (g := gB) hne [.int .u64 s, .slice yS ys yt, .bool false] 0 (setAll gA 0 [.int .i64 3, .int .i64 0, .slice zA zq zc, .int .u64 0, .slice zB 3 zb, .slice zC 3 zd] wx)).trans (setAll_all (vs := [.int .i64 3, .int .i64 0, .slice zA zq zc, .int .u64 0, .slice zB 3 zb, .slice zC 3 zd]) hcA rfl)
        have hBm : (setAll gA 0 [.int .i64 3, .int .i64 0, .slice zA zq zc, .int .u64 0, .slice zB 3 zb, .slice zC 3 zd] wx).heap[gB]? = _ := (setAll_other (g := gA) (Ne.symm hne) [.int .i64 3, .int .i64 0, .slice zA zq zc, .int .u64 0, .slice zB 3 zb, .slice zC 3 zd] 0 wx).trans hcB
        have hfB : (((((((((wx.setCell ⟨gA, 0, none⟩ (.int .i64 3)).setCell ⟨gA, 1, none⟩ (.int .i64 0)).setCell ⟨gA, 2, none⟩ (.slice zA zq zc)).setCell ⟨gA, 3, none⟩ (.int .u64 0)).setCell ⟨gA, 4, none⟩ (.slice zB 3 zb)).setCell ⟨gA, 5, none⟩ (.slice zC 3 zd)).setCell ⟨gB, 0, none⟩ (.int .u64 s)).setCell ⟨gB, 1, none⟩ (.slice yS ys yt)).setCell ⟨gB, 2, none⟩ (.bool false)).heap[gB]? = some (.cells #[.int .u64 s, .slice yS ys yt, .bool false] 51 (0, 0)) := setAll_all (vs := [.int .u64 s, .slice yS ys yt, .bool false]) hBm rfl
        have hv2 := (hv1.but (by simp [cX]) (But.all gA [.int .i64 3, .int .i64 0, .slice zA zq zc, .int .u64 0, .slice zB 3 zb, .slice zC 3 zd] 0 wx) hcA rfl).but (by simp [cX]) (But.all gB [.int .u64 s, .slice yS ys yt, .bool false] 0 _) hBm rfl
        change WldV (((((((((wx.setCell ⟨gA, 0, none⟩ (.int .i64 3)).setCell ⟨gA, 1, none⟩ (.int .i64 0)).setCell ⟨gA, 2, none⟩ (.slice zA zq zc)).setCell ⟨gA, 3, none⟩ (.int .u64 0)).setCell ⟨gA, 4, none⟩ (.slice zB 3 zb)).setCell ⟨gA, 5, none⟩ (.slice zC 3 zd)).setCell ⟨gB, 0, none⟩ (.int .u64 s)).setCell ⟨gB, 1, none⟩ (.slice yS ys yt)).setCell ⟨gB, 2, none⟩ (.bool false)) _ _ at hv2
        have a0 : wx.cell? ⟨gA, 0, none⟩ = some (.int .i64 0) := by simp [World.cell?, hcA]
        have af0 : wx.frozen? ⟨gA, 0, none⟩ = false := by simp [World.frozen?, hcA]
        have a1 : wx.cell? ⟨gA, 1, none⟩ = some (.int .i64 0) := by simp [World.cell?, hcA]
        have af1 : wx.frozen? ⟨gA, 1, none⟩ = false := by simp [World.frozen?, hcA]
        have a2 : wx.cell? ⟨gA, 2, none⟩ = some (.slice none 0 0) := by simp [World.cell?, hcA]
        have af2 : wx.frozen? ⟨gA, 2, none⟩ = false := by simp [World.frozen?, hcA]
        have a3 : wx.cell? ⟨gA, 3, none⟩ = some (.int .u64 0) := by simp [World.cell?, hcA]
        have af3 : wx.frozen? ⟨gA, 3, none⟩ = false := by simp [World.frozen?, hcA]
        have a4 : wx.cell? ⟨gA, 4, none⟩ = some (.slice none 0 0) := by simp [World.cell?, hcA]
        have af4 : wx.frozen? ⟨gA, 4, none⟩ = false := by simp [World.frozen?, hcA]
        have a5 : wx.cell? ⟨gA, 5, none⟩ = some (.slice none 0 0) := by simp [World.cell?, hcA]
        have af5 : wx.frozen? ⟨gA, 5, none⟩ = false := by simp [World.frozen?, hcA]
        have b0 : wx.cell? ⟨gB, 0, none⟩ = some (.int .u64 0) := by simp [World.cell?, hcB]
        have bf0 : wx.frozen? ⟨gB, 0, none⟩ = false := by simp [World.frozen?, hcB]
        have b1 : wx.cell? ⟨gB, 1, none⟩ = some (.slice none 0 0) := by simp [World.cell?, hcB]
        have bf1 : wx.frozen? ⟨gB, 1, none⟩ = false := by simp [World.frozen?, hcB]
        have b2 : wx.cell? ⟨gB, 2, none⟩ = some (.bool false) := by simp [World.cell?, hcB]
        have bf2 : wx.frozen? ⟨gB, 2, none⟩ = false := by simp [World.frozen?, hcB]
        go_upto_region 10 with (fail)
        generalize (((((((((wx.setCell ⟨gA, 0, none⟩ (.int .i64 3)).setCell ⟨gA, 1, none⟩ (.int .i64 0)).setCell ⟨gA, 2, none⟩ (.slice zA zq zc)).setCell ⟨gA, 3, none⟩ (.int .u64 0)).setCell ⟨gA, 4, none⟩ (.slice zB 3 zb)).setCell ⟨gA, 5, none⟩ (.slice zC 3 zd)).setCell ⟨gB, 0, none⟩ (.int .u64 s)).setCell ⟨gB, 1, none⟩ (.slice yS ys yt)).setCell ⟨gB, 2, none⟩ (.bool false)) = wf at *
        clear a0 af0 a1 af1 a2 af2 a3 af3 a4 af4 a5 af5 b0 bf0 b1 bf1 b2 bf2 hBm hcA hcB hv1 hr1 hx
        have hbr := heap_ext HBR.out hE2
        have b0 : wf.cell? ⟨gB, 0, none⟩ = some (.int .u64 s) := by simp [World.cell?, hfB]
        have b1 : wf.cell? ⟨gB, 1, none⟩ = some (.slice yS ys yt) := by simp [World.cell?, hfB]
        have b2 : wf.cell? ⟨gB, 2, none⟩ = some (.bool false) := by simp [World.cell?, hfB]
        have a0 : wf.cell? ⟨gA, 0, none⟩ = some (.int .i64 3) := by simp [World.cell?, hfA]
        have a1 : wf.cell? ⟨gA, 1, none⟩ = some (.int .i64 0) := by simp [World.cell?, hfA]
        have a2 : wf.cell? ⟨gA, 2, none⟩ = some (.slice zA zq zc) := by simp [World.cell?, hfA]
        have a3 : wf.cell? ⟨gA, 3, none⟩ = some (.int .u64 0) := by simp [World.cell?, hfA]
        have a4 : wf.cell? ⟨gA, 4, none⟩ = some (.slice zB 3 zb) := by simp [World.cell?, hfA]
        have a5 : wf.cell? ⟨gA, 5, none⟩ = some (.slice zC 3 zd) := by simp [World.cell?, hfA]
        have e0 : wf.cell? ⟨gw, 0, none⟩ = some (.int .i64 3) := by simp [World.cell?, hbr]
        have ef0 : wf.frozen? ⟨gw, 0, none⟩ = false := by simp [World.frozen?, hbr]
        have e1 : wf.cell? ⟨gw, 1, none⟩ = some (.int .i64 0) := by simp [World.cell?, hbr]
        have ef1 : wf.frozen? ⟨gw, 1, none⟩ = false := by simp [World.frozen?, hbr]
        have e2 : wf.cell? ⟨gw, 2, none⟩ = some (.slice yA yq yc) := by simp [World.cell?, hbr]
        have ef2 : wf.frozen? ⟨gw, 2, none⟩ = false := by simp [World.frozen?, hbr]
        have e3 : wf.cell? ⟨gw, 3, none⟩ = some (.int .u64 0) := by simp [World.cell?, hbr]
        have ef3 : wf.frozen? ⟨gw, 3, none⟩ = false := by simp [World.frozen?, hbr]
        have e4 : wf.cell? ⟨gw, 4, none⟩ = some (.slice yB 3 yb) := by simp [World.cell?, hbr]
        have ef4 : wf.frozen? ⟨gw, 4, none⟩ = false := by simp [World.frozen?, hbr]
        have e5 : wf.cell? ⟨gw, 5, none⟩ = some (.slice yC 3 yd) := by simp [World.cell?, hbr]
        have ef5 : wf.frozen? ⟨gw, 5, none⟩ = false := by simp [World.frozen?, hbr]
        go_upto_region 13 with (fail)
        have hE3 : Ext w ((((((wf.setCell ⟨gw, 0, none⟩ (.int .i64 3)).setCell ⟨gw, 1, none⟩ (.int .i64 0)).setCell ⟨gw, 2, none⟩ (.slice zA zq zc)).setCell ⟨gw, 3, none⟩ (.int .u64 0)).setCell ⟨gw, 4, none⟩ (.slice zB 3 zb)).setCell ⟨gw, 5, none⟩ (.slice zC 3 zd)) := setAll_ext (g := gw) (vs := [.int .i64 3, .int .i64 0, .slice zA zq zc, .int .u64 0, .slice zB 3 zb, .slice zC 3 zd]) (i := 0) (hWr.trans hE2) hgw
        have hb3 : ((((((wf.setCell ⟨gw, 0, none⟩ (.int .i64 3)).setCell ⟨gw, 1, none⟩ (.int .i64 0)).setCell ⟨gw, 2, none⟩ (.slice zA zq zc)).setCell ⟨gw, 3, none⟩ (.int .u64 0)).setCell ⟨gw, 4, none⟩ (.slice zB 3 zb)).setCell ⟨gw, 5, none⟩ (.slice zC 3 zd)).heap[gw]? = some (.cells #[.int .i64 3, .int .i64 0, .slice zA zq zc, .int .u64 0, .slice zB 3 zb, .slice zC 3 zd] 32 (0, 0)) := setAll_all (vs := [.int .i64 3, .int .i64 0, .slice zA zq zc, .int .u64 0, .slice zB 3 zb, .slice zC 3 zd]) hbr rfl
        have hv3 := hv2.but (by simp [cX]) (But.all gw [.int .i64 3, .int .i64 0, .slice zA zq zc, .int .u64 0, .slice zB 3 zb, .slice zC 3 zd] 0 wf) hbr rfl
        change WldV ((((((wf.setCell ⟨gw, 0, none⟩ (.int .i64 3)).setCell ⟨gw, 1, none⟩ (.int .i64 0)).setCell ⟨gw, 2, none⟩ (.slice zA zq zc)).setCell ⟨gw, 3, none⟩ (.int .u64 0)).setCell ⟨gw, 4, none⟩ (.slice zB 3 zb)).setCell ⟨gw, 5, none⟩ (.slice zC 3 zd)) _ _ at hv3
        generalize ((((((wf.setCell ⟨gw, 0, none⟩ (.int .i64 3)).setCell ⟨gw, 1, none⟩ (.int .i64 0)).setCell ⟨gw, 2, none⟩ (.slice zA zq zc)).setCell ⟨gw, 3, none⟩ (.int .u64 0)).setCell ⟨gw, 4, none⟩ (.slice zB 3 zb)).setCell ⟨gw, 5, none⟩ (.slice zC 3 zd)) = wg at *
        clear b0 b1 b2 a0 a1 a2 a3 a4 a5 e0 e1 e2 e3 e4 e5 ef0 ef1 ef2 ef3 ef4 ef5 hfA hfB hbr
        have hca3 := hE3.cell hca
        go_wp2
        go_roundw
        case rel => exact ⟨j + 1, _, _, _, _, _, _, _, by go_num, by omega, by rw [HNX.out, IntKind.wrap_u64], hE3, hb3, by rw [HNX.out]; exact hv3⟩
        case measure => simp [intOf]; omega
    · obtain rfl : j = n := by omega
      have htk : l.take j = l := List.take_of_length_le (by omega)
      rw [htk] at hVr
      simp only [htk]
      generalize sumL l = s at *
      have e0 : wr.cell? ⟨gw, 0, none⟩ = some (.int .i64 3) := by simp [World.cell?, hbr]
      have e1 : wr.cell? ⟨gw, 1, none⟩ = some (.int .i64 0) := by simp [World.cell?, hbr]
      have e2 : wr.cell? ⟨gw, 2, none⟩ = some (.slice yA yq yc) := by simp [World.cell?, hbr]
      have e3 : wr.cell? ⟨gw, 3, none⟩ = some (.int .u64 0) := by simp [World.cell?, hbr]
      have e4 : wr.cell? ⟨gw, 4, none⟩ = some (.slice yB 3 yb) := by simp [World.cell?, hbr]
      have e5 : wr.cell? ⟨gw, 5, none⟩ = some (.slice yC 3 yd) := by simp [World.cell?, hbr]
      go_wp2_with fail
      refine (do_all _ _ (cX s) 0 ⟨4, 2, 1, 0, [], []⟩ false _ hVr ⟨none, 0, 0, none, 0, 0, rfl, bytes_nil _, words_nil _, by simp, by simp⟩ (useM_word (A := ⟨4, 2, 1, 0, [], []⟩) (by simp) ▸ cFit s)).mono ?_
      rintro e u9 ⟨v9, r9, rfl, hV9, hR9, hu9⟩
      rw [cEnd] at hR9
      generalize doK (cX s) 0 ⟨4, 2, 1, 0, [], []⟩ false = X9 at hV9
      obtain ⟨zA, zq, zc, zB, zC, zb, zd, rfl, -, -⟩ := hV9
      obtain ⟨yS, ys, yt, rfl, -⟩ := hR9
      go_upto_region 15 with (fail)
      obtain ⟨hx9, -, hr9⟩ := two_boxes7 u9 (.cells #[.int .i64 X9.T, .int .i64 X9.C, .slice zA zq zc, .int .u64 X9.R, .slice zB X9.n zb, .slice zC X9.n zd] 32) (.cells #[.int .u64 s, .slice yS ys yt, .bool false] 51)
      generalize (u9.alloc (.cells #[.int .i64 X9.T, .int .i64 X9.C, .slice zA zq zc, .int .u64 X9.R, .slice zB X9.n zb, .slice zC X9.n zd] 32)).alloc (.cells #[.int .u64 s, .slice yS ys yt, .bool false] 51) = U9 at *
      generalize u9.heap.size = g9 at *
      have r0 : U9.cell? ⟨g9 + 1, 0, none⟩ = some (.int .u64 s) := by simp [World.cell?, hr9]
      have r1 : U9.cell? ⟨g9 + 1, 1, none⟩ = some (.slice yS ys yt) := by simp [World.cell?, hr9]
      have r2 : U9.cell? ⟨g9 + 1, 2, none⟩ = some (.bool false) := by simp [World.cell?, hr9]
      clear e0 e1 e2 e3 e4 e5
      go_wp2
      go_ret
      exact ⟨rfl, hWr.trans (hu9.trans hx9)⟩
set_option maxRecDepth 100000 in
theorem AccessCounts_lifted (os : Os) (started : os.Started) (H : Type) (enc : TypeId × Value → H) :
    ReturnsInHanded {} Try.checked os 9 .any (Rows.accessCountsSpec.pre6 enc Try.prog Try.f9 Rows.accessCountsRow.domain false) (Rows.accessCountsSpec.post enc Try.prog Try.f9 false true false false) := by
  refine law_row os started H enc Rows.accessCountsSpec rfl (fun ds h => by
    match ds, h with
    | [_, _], _ => rfl) (by kernel_rfl) Try.func9 rfl
    (by rw [Try.params9]; intro t ht; simp at ht; rcases ht with rfl | rfl <;> exact ⟨by kernel_rfl, of_decide_eq_true (by kernel_rfl)⟩)
    (ChangeSpec.witness6 (enc := enc) (C := Try.checked) false ⟨#[], #[.slice none 0 0, .slice none 0 0], []⟩ 8 (by kernel_rfl) (by kernel_rfl) (by kernel_rfl) (by kernel_rfl)) ?_
  intro W base args ds ps hval hA hlt
  rw [Try.params9] at hA hval
  obtain ⟨v0, v1, d0, d1, p0, p1, rfl, rfl, rfl, h0, h1⟩ := trodAll_two hA
  obtain ⟨A, n, c, l, rfl, hV⟩ := open_words_arg (hval 0 _ v0 rfl rfl) h0
  obtain ⟨M, m, k, ms, rfl, hM⟩ := open_bytes1 (hval 1 _ v1 rfl rfl) h1
  exact counts_walk A n c l M m k ms W hV hM
theorem AccessCounts_holds : Rows.AccessCountsSaid :=
  OpenClaim.holds_of_wide 9 Try.f9 rfl rfl rfl rfl rfl rfl rfl ⟨rfl, rfl, rfl, rfl, rfl⟩ rfl rfl rfl rfl rfl (by kernel_rfl) Try.func9 (by kernel_rfl)
    (of_decide_eq_true (by kernel_rfl)) (by unfold Func.isWrapper; rw [if_neg (of_decide_eq_false (by kernel_rfl))]; exact ⟨rfl, rfl⟩)
    (fun os started H enc _ => AccessCounts_lifted os started H enc)
#print axioms AccessCounts_holds
end Go.Proofs.Ytennnhfaghdeoaa
