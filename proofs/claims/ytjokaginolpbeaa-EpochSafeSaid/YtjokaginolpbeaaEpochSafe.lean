/- Proved: the law EpochSafe (a thread is pinned, and stays so; two others take records, and retire what they have, step by step, in whatever order: no record that was retired since is handed out) returns true at every input and turns none of its arguments. No condition. -/
import Derived.Test.YtjokaginolpbeaaEpochSafePartG
import Derived.Test.YtjokaginolpbeaaEpochSafePartE
namespace Go.Proofs.Ytjokaginolpbeaa
open Go.ChangeShapes Go.WideShapes Go.ChangeAt Go.RowKit

set_option maxRecDepth 100000 in
set_option maxHeartbeats 20000000 in
theorem esafe_walk (cn bn : Nat) (hcn : cn < 256) (hbn : bn < 256) (M : Option Addr) (m mc : Nat) (ms : List UInt8) (w : World) (hM : BytesV w M m mc ms) :
    Calls Try.prog 5 #[.int .u8 cn, .int .u8 bn, .slice M m mc] w fun e w' => e = .returned (.bool true) ∧ Ext w w' := by
  have hmk := Nat.le_trans hM.le hM.cap
  simp only [maxLen] at hmk
  obtain ⟨i0, hi0, hz0, hz1, hz2⟩ := info_parts info_i64
  obtain ⟨iR, hiR, hzR0, hzR1, hzR2⟩ := info_parts info_res
  have hb19 : ∀ (W : World), (Instr.build 24 #[(0, .int .i64 19)]).run Try.prog W = .ok (.agg #[.int .i64 19, .int .i64 0, .int .i64 0, .int .u64 0]) W := fun _ => by kernel_rfl
  have hb3 : ∀ (W : World), (Instr.build 24 #[(0, .int .i64 3)]).run Try.prog W = .ok (.agg #[.int .i64 3, .int .i64 0, .int .i64 0, .int .u64 0]) W := fun _ => by kernel_rfl
  have hr1 : ∀ (W : World) (a : Int), (Instr.buildSlice 35 1 #[(0, .int .i64 a)]).run Try.prog W = .ok (.slice (some ⟨W.heap.size, 0, none⟩) 1 1) (W.alloc (.cells #[.int .i64 a] 3)) := fun _ _ => by kernel_rfl
  have hr4 : ∀ (W : World), (Instr.buildSlice 35 4 #[(0, .int .i64 3), (1, .int .i64 6), (2, .int .i64 5), (3, .int .i64 4)]).run Try.prog W = .ok (.slice (some ⟨W.heap.size, 0, none⟩) 4 4) (W.alloc (.cells #[.int .i64 3, .int .i64 6, .int .i64 5, .int .i64 4] 3)) := fun _ => by kernel_rfl
  have hrr : ∀ (W : World) (a b c : Value), (Instr.buildSlice 25 1 #[(0, .agg #[a, b, c])]).run Try.prog W = .ok (.slice (some ⟨W.heap.size, 0, none⟩) 1 1) (W.alloc (.cells #[a, b, c] 59)) := fun _ _ _ _ => by kernel_rfl
  have hm1 : ∀ (W : World), (Instr.makeSlice 35 (.int .i64 3) (.int .i64 3)).run Try.prog W = .ok (.slice (some ⟨W.heap.size, 0, none⟩) 3 3) (W.alloc (.cells #[.int .i64 0, .int .i64 0, .int .i64 0] 3)) := fun _ => by kernel_rfl
  have hm2 : ∀ (W : World), (Instr.makeSlice 57 (.int .i64 3) (.int .i64 3)).run Try.prog W = .ok (.slice (some ⟨W.heap.size, 0, none⟩) 3 3) (W.alloc (.cells #[.slice none 0 0, .slice none 0 0, .slice none 0 0] 25)) := fun _ => by kernel_rfl
  have hbo : ∀ (W : World) (x y : Int), (Instr.build 24 #[(0, .int .i64 x), (1, .int .i64 y)]).run Try.prog W = .ok (.agg #[.int .i64 x, .int .i64 y, .int .i64 0, .int .u64 0]) W := fun _ _ _ => by kernel_rfl
  have q1 : IntKind.i64.wrap (cn : Int) = (cn : Int) := by rw [IntKind.wrap_i64]; omega
  have q2 : Int.tmod (cn : Int) 5 = (cn : Int) % 5 := by rw [Int.tmod_eq_emod_of_nonneg (by omega)]
  have q3 : IntKind.i64.wrap ((cn : Int) % 5) = (cn : Int) % 5 := by rw [IntKind.wrap_i64]; omega
  have q4 : (1 : Int) + (cn : Int) % 5 = ((1 + cn % 5 : Nat) : Int) := by omega
  have hN1 : 1 ≤ 1 + cn % 5 := by omega
  have hN5 : 1 + cn % 5 ≤ 5 := by omega
  generalize 1 + cn % 5 = N at *
  have p1 : IntKind.i64.wrap (bn : Int) = (bn : Int) := by rw [IntKind.wrap_i64]; omega
  have p2 : Int.tmod (bn : Int) 4 = (bn : Int) % 4 := by rw [Int.tmod_eq_emod_of_nonneg (by omega)]
  have p3 : IntKind.i64.wrap ((bn : Int) % 4) = (bn : Int) % 4 := by rw [IntKind.wrap_i64]; omega
  have p4 : (bn : Int) % 4 = ((bn % 4 : Nat) : Int) := by omega
  have hK : bn % 4 ≤ 3 := by omega
  generalize bn % 4 = K at *
  have hnew := fun W => ranew_yes 3 N (by omega) (by omega) (by omega) W
  have hp0 := newS_k (t := 3) (c := N) (by omega) (by omega) (by omega)
  have hk0 := new_wok (t := 3) (c := N) (by omega) (by omega) (by omega)
  have hs0 : (newS N).e = 0 := rfl
  have hzp0 : ∀ i, (newS N).P i = 0 := fun _ => rfl
  have hl0 : ∀ i, (newS N).L i = [] := fun _ => rfl
  have hpl0 : (newS N).pile = upFrom 1 N := rfl
  generalize newW 3 N = X0 at *
  generalize newS N = S0 at *
  go_enter Try.func5, Try.ntmps5
  go_wp2_with fail
  refine (shown13_any _).mono ?_
  rintro e w1 ⟨rfl, hW⟩
  rcases (Decidable.em (m ≤ 250)).symm with h6 | h6
  · have h6' : (250 : Int) < (m : Int) := by omega
    go_wp2
    go_ret
    exact ⟨rfl, hW⟩
  have h6' : ¬ (250 : Int) < (m : Int) := by omega
  go_wp2_with fail
  refine (hnew _).mono ?_
  rintro e w_a ⟨v_, rfl, hVa, hx_⟩
  obtain ⟨aA, aq, ac, aB, ab, aC, ad, rfl⟩ := hVa.form6
  replace hW := hW.trans hx_
  clear hx_
  go_upto_region 6 with (fail)
  have hx_ : Ext w_a (w_a.alloc (.cells #[.int .i64 X0.T, .int .i64 X0.C, .slice aA aq ac, .int .u64 X0.R, .slice aB X0.n ab, .slice aC X0.n ad] 51)) := (Below.refl _ w_a).alloc (Nat.le_refl _) _
  have hba := heap_alloc_new w_a (.cells #[.int .i64 X0.T, .int .i64 X0.C, .slice aA aq ac, .int .u64 X0.R, .slice aB X0.n ab, .slice aC X0.n ad] 51)
  generalize w_a.alloc (.cells #[.int .i64 X0.T, .int .i64 X0.C, .slice aA aq ac, .int .u64 X0.R, .slice aB X0.n ab, .slice aC X0.n ad] 51) = W3 at *
  have hls := hW.size
  generalize w_a.heap.size = ga at *
  replace hVa := hVa.ext hx_
  replace hW := hW.trans hx_
  clear hx_
  have hbx : BoxW W3 ga X0 := ⟨_, hba, hVa⟩
  have hlg : ga < W3.heap.size := (Array.getElem?_eq_some_iff.1 hba).1
  clear hba hVa hnew q1 q2 q3
  go_wp2
  go_loopw [10] (fun iv wr => ∃ (j : Nat) (Xj : WldK) (S : EpS), iv = .int .i64 (j : Int) ∧ j ≤ K ∧ BoxW wr ga Xj ∧ EpK Xj 3 N S ∧ WOk Xj ∧ S.e = j ∧ (∀ i, S.P i = 0) ∧ (∀ i, S.L i = []) ∧ S.pile = upFrom 1 N ∧ Ext w wr ∧ ga < wr.heap.size) (fun iv _ => K - (intOf iv).toNat)
  case atStart => exact ⟨0, X0, S0, rfl, Nat.zero_le _, hbx, hp0, hk0, hs0, hzp0, hl0, hpl0, hW, hlg⟩
  case round =>
    clear hp0 hk0 hW hlg hbx hs0 hzp0 hl0 hpl0
    obtain ⟨j, Xj, S, rfl, hj, hbx, hpj, hkj, hse, hsz, hsl, hpl, hWr, hgr⟩ := hrel
    obtain ⟨bA, bq, bc, bB, bb, bC, bd, hb0, hbV⟩ := hbx.form
    clear hbx
    rcases Nat.lt_or_ge j K with hjK | hjK
    · have hjI : (j : Int) < (K : Int) := by omega
      have hok := okP_zero (t := 3) hsz
      obtain ⟨X1, hp1, hk1, hcon⟩ := eal_adv hpj hkj (me := 1) (by omega) (by omega) 99 (by omega) (by omega)
      rw [decide_eq_true hok, show (((1 : Nat) : Int)) = 1 from rfl, show (((99 : Nat) : Int)) = 99 from rfl] at hcon
      rw [adv_ok hok] at hp1
      have hse1 : S.drain.e = j + 1 := by rw [← hse]; rfl
      have hsz1 : ∀ i, S.drain.P i = 0 := hsz
      have hsl1 : ∀ i, S.drain.L i = [] := fun i => by
        show (if i = (S.e + 2) % 3 then [] else S.L i) = []
        split
        · rfl
        · exact hsl i
      have hpl1 : S.drain.pile = upFrom 1 N := by
        show (S.L ((S.e + 2) % 3)).reverse ++ S.pile = _
        rw [hsl, hpl]; rfl
      generalize S.drain = S1 at *
      clear hok hse hsz hpj hsl hpl
      have e0 : wr.cell? ⟨ga, 0, none⟩ = some (.int .i64 Xj.T) := by simp [World.cell?, hb0]
      have e1 : wr.cell? ⟨ga, 1, none⟩ = some (.int .i64 Xj.C) := by simp [World.cell?, hb0]
      have e2 : wr.cell? ⟨ga, 2, none⟩ = some (.slice bA bq bc) := by simp [World.cell?, hb0]
      have e3 : wr.cell? ⟨ga, 3, none⟩ = some (.int .u64 Xj.R) := by simp [World.cell?, hb0]
      have e4 : wr.cell? ⟨ga, 4, none⟩ = some (.slice bB Xj.n bb) := by simp [World.cell?, hb0]
      have e5 : wr.cell? ⟨ga, 5, none⟩ = some (.slice bC Xj.n bd) := by simp [World.cell?, hb0]
      go_wp2_with fail
      refine (hcon _ _ _ _ hbV).mono ?_
      rintro e w7c ⟨v_, rfl, hVc, hx_⟩
      obtain ⟨cA, cq, cc, cB, cb, cC, cd, rfl⟩ := hVc.form6
      replace hgr := Nat.lt_of_lt_of_le hgr hx_.size
      clear e0 e1 e2 e3 e4 e5
      replace hb0 := heap_ext hb0 hx_
      replace hbV := hbV.ext hx_
      replace hWr := hWr.trans hx_
      clear hx_
      go_upto_region 10 with (fail)
      obtain ⟨hx_, hbc, hoc⟩ := two_boxes7 w7c (.cells #[.int .i64 X1.T, .int .i64 X1.C, .slice cA cq cc, .int .u64 X1.R, .slice cB X1.n cb, .slice cC X1.n cd] 51) (.cells #[.int .i64 0, .bool true, .int .i64 0, .int .u64 0, .slice none 0 0] 37)
      generalize (w7c.alloc (.cells #[.int .i64 X1.T, .int .i64 X1.C, .slice cA cq cc, .int .u64 X1.R, .slice cB X1.n cb, .slice cC X1.n cd] 51)).alloc (.cells #[.int .i64 0, .bool true, .int .i64 0, .int .u64 0, .slice none 0 0] 37) = W7c at *
      have hgc := hgr
      replace hgr := Nat.lt_of_lt_of_le hgr hx_.size
      generalize w7c.heap.size = gc at *
      replace hb0 := heap_ext hb0 hx_
      replace hbV := hbV.ext hx_
      replace hVc := hVc.ext hx_
      replace hWr := hWr.trans hx_
      clear hx_
      go_upto_region 12 with (fail)
      have nc : ¬ ga = gc := by omega
      have nc' : ¬ gc = ga := by omega
      clear hcon
      have f0 : W7c.cell? ⟨gc, 0, none⟩ = some (.int .i64 X1.T) := by simp [World.cell?, hbc]
      have f1 : W7c.cell? ⟨gc, 1, none⟩ = some (.int .i64 X1.C) := by simp [World.cell?, hbc]
      have f2 : W7c.cell? ⟨gc, 2, none⟩ = some (.slice cA cq cc) := by simp [World.cell?, hbc]
      have f3 : W7c.cell? ⟨gc, 3, none⟩ = some (.int .u64 X1.R) := by simp [World.cell?, hbc]
      have f4 : W7c.cell? ⟨gc, 4, none⟩ = some (.slice cB X1.n cb) := by simp [World.cell?, hbc]
      have f5 : W7c.cell? ⟨gc, 5, none⟩ = some (.slice cC X1.n cd) := by simp [World.cell?, hbc]
      have e0 : W7c.cell? ⟨ga, 0, none⟩ = some (.int .i64 Xj.T) := by simp [World.cell?, hb0]
      have ef0 : W7c.frozen? ⟨ga, 0, none⟩ = false := by simp [World.frozen?, hb0]
      have e1 : W7c.cell? ⟨ga, 1, none⟩ = some (.int .i64 Xj.C) := by simp [World.cell?, hb0]
      have ef1 : W7c.frozen? ⟨ga, 1, none⟩ = false := by simp [World.frozen?, hb0]
      have e2 : W7c.cell? ⟨ga, 2, none⟩ = some (.slice bA bq bc) := by simp [World.cell?, hb0]
      have ef2 : W7c.frozen? ⟨ga, 2, none⟩ = false := by simp [World.frozen?, hb0]
      have e3 : W7c.cell? ⟨ga, 3, none⟩ = some (.int .u64 Xj.R) := by simp [World.cell?, hb0]
      have ef3 : W7c.frozen? ⟨ga, 3, none⟩ = false := by simp [World.frozen?, hb0]
      have e4 : W7c.cell? ⟨ga, 4, none⟩ = some (.slice bB Xj.n bb) := by simp [World.cell?, hb0]
      have ef4 : W7c.frozen? ⟨ga, 4, none⟩ = false := by simp [World.frozen?, hb0]
      have e5 : W7c.cell? ⟨ga, 5, none⟩ = some (.slice bC Xj.n bd) := by simp [World.cell?, hb0]
      have ef5 : W7c.frozen? ⟨ga, 5, none⟩ = false := by simp [World.frozen?, hb0]
      go_wp2
      have hb0_ : ((((((W7c.setCell ⟨ga, 0, none⟩ (.int .i64 X1.T)).setCell ⟨ga, 1, none⟩ (.int .i64 X1.C)).setCell ⟨ga, 2, none⟩ (.slice cA cq cc)).setCell ⟨ga, 3, none⟩ (.int .u64 X1.R)).setCell ⟨ga, 4, none⟩ (.slice cB X1.n cb)).setCell ⟨ga, 5, none⟩ (.slice cC X1.n cd)).heap[ga]? = some (.cells #[.int .i64 X1.T, .int .i64 X1.C, .slice cA cq cc, .int .u64 X1.R, .slice cB X1.n cb, .slice cC X1.n cd] 51 (0, 0)) := setAll_all (vs := [.int .i64 X1.T, .int .i64 X1.C, .slice cA cq cc, .int .u64 X1.R, .slice cB X1.n cb, .slice cC X1.n cd]) hb0 rfl
      have hWs_ : Ext w ((((((W7c.setCell ⟨ga, 0, none⟩ (.int .i64 X1.T)).setCell ⟨ga, 1, none⟩ (.int .i64 X1.C)).setCell ⟨ga, 2, none⟩ (.slice cA cq cc)).setCell ⟨ga, 3, none⟩ (.int .u64 X1.R)).setCell ⟨ga, 4, none⟩ (.slice cB X1.n cb)).setCell ⟨ga, 5, none⟩ (.slice cC X1.n cd)) := setAll_ext (g := ga) (vs := [.int .i64 X1.T, .int .i64 X1.C, .slice cA cq cc, .int .u64 X1.R, .slice cB X1.n cb, .slice cC X1.n cd]) (i := 0) hWr hls
      have hk_ : ∀ g, g ≠ ga → ((((((W7c.setCell ⟨ga, 0, none⟩ (.int .i64 X1.T)).setCell ⟨ga, 1, none⟩ (.int .i64 X1.C)).setCell ⟨ga, 2, none⟩ (.slice cA cq cc)).setCell ⟨ga, 3, none⟩ (.int .u64 X1.R)).setCell ⟨ga, 4, none⟩ (.slice cB X1.n cb)).setCell ⟨ga, 5, none⟩ (.slice cC X1.n cd)).heap[g]? = W7c.heap[g]? := fun g hg => setAll_other (g := ga) (k := g) hg [.int .i64 X1.T, .int .i64 X1.C, .slice cA cq cc, .int .u64 X1.R, .slice cB X1.n cb, .slice cC X1.n cd] 0 W7c
      have hVc_ := hVc.but hk1.2.2 (But.all ga [.int .i64 X1.T, .int .i64 X1.C, .slice cA cq cc, .int .u64 X1.R, .slice cB X1.n cb, .slice cC X1.n cd] 0 W7c) hb0 rfl
      change WldV ((((((W7c.setCell ⟨ga, 0, none⟩ (.int .i64 X1.T)).setCell ⟨ga, 1, none⟩ (.int .i64 X1.C)).setCell ⟨ga, 2, none⟩ (.slice cA cq cc)).setCell ⟨ga, 3, none⟩ (.int .u64 X1.R)).setCell ⟨ga, 4, none⟩ (.slice cB X1.n cb)).setCell ⟨ga, 5, none⟩ (.slice cC X1.n cd)) _ _ at hVc_
      have hsz_ : ((((((W7c.setCell ⟨ga, 0, none⟩ (.int .i64 X1.T)).setCell ⟨ga, 1, none⟩ (.int .i64 X1.C)).setCell ⟨ga, 2, none⟩ (.slice cA cq cc)).setCell ⟨ga, 3, none⟩ (.int .u64 X1.R)).setCell ⟨ga, 4, none⟩ (.slice cB X1.n cb)).setCell ⟨ga, 5, none⟩ (.slice cC X1.n cd)).heap.size = W7c.heap.size := by simp [World.setCell]
      generalize ((((((W7c.setCell ⟨ga, 0, none⟩ (.int .i64 X1.T)).setCell ⟨ga, 1, none⟩ (.int .i64 X1.C)).setCell ⟨ga, 2, none⟩ (.slice cA cq cc)).setCell ⟨ga, 3, none⟩ (.int .u64 X1.R)).setCell ⟨ga, 4, none⟩ (.slice cB X1.n cb)).setCell ⟨ga, 5, none⟩ (.slice cC X1.n cd)) = wg at *
      go_roundw
      case rel => exact ⟨j + 1, X1, S1, by go_num, by omega, ⟨_, hb0_, hVc_⟩, hp1, hk1, hse1, hsz1, hsl1, hpl1, hWs_, by rw [hsz_]; exact hgr⟩
      case measure => simp [intOf]; omega
    · obtain rfl : j = K := by omega
      have hjI : ¬ (j : Int) < (j : Int) := by omega
      obtain ⟨X1, hp1, hk1, hcon⟩ := eal_pin hpj hkj (me := 0) (by omega) (by omega) 9 (by omega) (by omega)
      rw [show (((0 : Nat) : Int)) = 0 from rfl, show (((9 : Nat) : Int)) = 9 from rfl] at hcon
      have hshr : Shr N S.e (tagF (X1.at 1)) X1 0 := shr_new (S := S.pin 0 ((S.e : Int) + 1)) hp1 hpl (fun i _ => hsl i) (by simp [EpS.pin])
      rw [hse] at hshr
      generalize tagF (X1.at 1) = τ0 at *
      clear hse hsz hpj hsl hpl hp1
      have e0 : wr.cell? ⟨ga, 0, none⟩ = some (.int .i64 Xj.T) := by simp [World.cell?, hb0]
      have e1 : wr.cell? ⟨ga, 1, none⟩ = some (.int .i64 Xj.C) := by simp [World.cell?, hb0]
      have e2 : wr.cell? ⟨ga, 2, none⟩ = some (.slice bA bq bc) := by simp [World.cell?, hb0]
      have e3 : wr.cell? ⟨ga, 3, none⟩ = some (.int .u64 Xj.R) := by simp [World.cell?, hb0]
      have e4 : wr.cell? ⟨ga, 4, none⟩ = some (.slice bB Xj.n bb) := by simp [World.cell?, hb0]
      have e5 : wr.cell? ⟨ga, 5, none⟩ = some (.slice bC Xj.n bd) := by simp [World.cell?, hb0]
      go_wp2_with fail
      refine (hcon _ _ _ _ hbV).mono ?_
      rintro e w7c ⟨v_, rfl, hVc, hx_⟩
      obtain ⟨cA, cq, cc, cB, cb, cC, cd, rfl⟩ := hVc.form6
      replace hgr := Nat.lt_of_lt_of_le hgr hx_.size
      clear e0 e1 e2 e3 e4 e5
      replace hb0 := heap_ext hb0 hx_
      replace hbV := hbV.ext hx_
      replace hWr := hWr.trans hx_
      clear hx_
      go_upto_region 14 with (fail)
      obtain ⟨hx_, hbc, hoc⟩ := two_boxes7 w7c (.cells #[.int .i64 X1.T, .int .i64 X1.C, .slice cA cq cc, .int .u64 X1.R, .slice cB X1.n cb, .slice cC X1.n cd] 51) (.cells #[.int .i64 0, .bool false, .int .i64 0, .int .u64 0, .slice none 0 0] 37)
      generalize (w7c.alloc (.cells #[.int .i64 X1.T, .int .i64 X1.C, .slice cA cq cc, .int .u64 X1.R, .slice cB X1.n cb, .slice cC X1.n cd] 51)).alloc (.cells #[.int .i64 0, .bool false, .int .i64 0, .int .u64 0, .slice none 0 0] 37) = W7c at *
      have hgc := hgr
      replace hgr := Nat.lt_of_lt_of_le hgr hx_.size
      generalize w7c.heap.size = gc at *
      replace hb0 := heap_ext hb0 hx_
      replace hbV := hbV.ext hx_
      replace hVc := hVc.ext hx_
      replace hWr := hWr.trans hx_
      clear hx_
      go_upto_region 16 with (fail)
      have nc : ¬ ga = gc := by omega
      have nc' : ¬ gc = ga := by omega
      clear hcon p1 p2 p3 p4
      have f0 : W7c.cell? ⟨gc, 0, none⟩ = some (.int .i64 X1.T) := by simp [World.cell?, hbc]
      have f1 : W7c.cell? ⟨gc, 1, none⟩ = some (.int .i64 X1.C) := by simp [World.cell?, hbc]
      have f2 : W7c.cell? ⟨gc, 2, none⟩ = some (.slice cA cq cc) := by simp [World.cell?, hbc]
      have f3 : W7c.cell? ⟨gc, 3, none⟩ = some (.int .u64 X1.R) := by simp [World.cell?, hbc]
      have f4 : W7c.cell? ⟨gc, 4, none⟩ = some (.slice cB X1.n cb) := by simp [World.cell?, hbc]
      have f5 : W7c.cell? ⟨gc, 5, none⟩ = some (.slice cC X1.n cd) := by simp [World.cell?, hbc]
      have e0 : W7c.cell? ⟨ga, 0, none⟩ = some (.int .i64 Xj.T) := by simp [World.cell?, hb0]
      have ef0 : W7c.frozen? ⟨ga, 0, none⟩ = false := by simp [World.frozen?, hb0]
      have e1 : W7c.cell? ⟨ga, 1, none⟩ = some (.int .i64 Xj.C) := by simp [World.cell?, hb0]
      have ef1 : W7c.frozen? ⟨ga, 1, none⟩ = false := by simp [World.frozen?, hb0]
      have e2 : W7c.cell? ⟨ga, 2, none⟩ = some (.slice bA bq bc) := by simp [World.cell?, hb0]
      have ef2 : W7c.frozen? ⟨ga, 2, none⟩ = false := by simp [World.frozen?, hb0]
      have e3 : W7c.cell? ⟨ga, 3, none⟩ = some (.int .u64 Xj.R) := by simp [World.cell?, hb0]
      have ef3 : W7c.frozen? ⟨ga, 3, none⟩ = false := by simp [World.frozen?, hb0]
      have e4 : W7c.cell? ⟨ga, 4, none⟩ = some (.slice bB Xj.n bb) := by simp [World.cell?, hb0]
      have ef4 : W7c.frozen? ⟨ga, 4, none⟩ = false := by simp [World.frozen?, hb0]
      have e5 : W7c.cell? ⟨ga, 5, none⟩ = some (.slice bC Xj.n bd) := by simp [World.cell?, hb0]
      have ef5 : W7c.frozen? ⟨ga, 5, none⟩ = false := by simp [World.frozen?, hb0]
      go_upto_region 17 with (fail)
      have hb0_ : ((((((W7c.setCell ⟨ga, 0, none⟩ (.int .i64 X1.T)).setCell ⟨ga, 1, none⟩ (.int .i64 X1.C)).setCell ⟨ga, 2, none⟩ (.slice cA cq cc)).setCell ⟨ga, 3, none⟩ (.int .u64 X1.R)).setCell ⟨ga, 4, none⟩ (.slice cB X1.n cb)).setCell ⟨ga, 5, none⟩ (.slice cC X1.n cd)).heap[ga]? = some (.cells #[.int .i64 X1.T, .int .i64 X1.C, .slice cA cq cc, .int .u64 X1.R, .slice cB X1.n cb, .slice cC X1.n cd] 51 (0, 0)) := setAll_all (vs := [.int .i64 X1.T, .int .i64 X1.C, .slice cA cq cc, .int .u64 X1.R, .slice cB X1.n cb, .slice cC X1.n cd]) hb0 rfl
      have hWs_ : Ext w ((((((W7c.setCell ⟨ga, 0, none⟩ (.int .i64 X1.T)).setCell ⟨ga, 1, none⟩ (.int .i64 X1.C)).setCell ⟨ga, 2, none⟩ (.slice cA cq cc)).setCell ⟨ga, 3, none⟩ (.int .u64 X1.R)).setCell ⟨ga, 4, none⟩ (.slice cB X1.n cb)).setCell ⟨ga, 5, none⟩ (.slice cC X1.n cd)) := setAll_ext (g := ga) (vs := [.int .i64 X1.T, .int .i64 X1.C, .slice cA cq cc, .int .u64 X1.R, .slice cB X1.n cb, .slice cC X1.n cd]) (i := 0) hWr hls
      have hk_ : ∀ g, g ≠ ga → ((((((W7c.setCell ⟨ga, 0, none⟩ (.int .i64 X1.T)).setCell ⟨ga, 1, none⟩ (.int .i64 X1.C)).setCell ⟨ga, 2, none⟩ (.slice cA cq cc)).setCell ⟨ga, 3, none⟩ (.int .u64 X1.R)).setCell ⟨ga, 4, none⟩ (.slice cB X1.n cb)).setCell ⟨ga, 5, none⟩ (.slice cC X1.n cd)).heap[g]? = W7c.heap[g]? := fun g hg => setAll_other (g := ga) (k := g) hg [.int .i64 X1.T, .int .i64 X1.C, .slice cA cq cc, .int .u64 X1.R, .slice cB X1.n cb, .slice cC X1.n cd] 0 W7c
      have hVc_ := hVc.but hk1.2.2 (But.all ga [.int .i64 X1.T, .int .i64 X1.C, .slice cA cq cc, .int .u64 X1.R, .slice cB X1.n cb, .slice cC X1.n cd] 0 W7c) hb0 rfl
      change WldV ((((((W7c.setCell ⟨ga, 0, none⟩ (.int .i64 X1.T)).setCell ⟨ga, 1, none⟩ (.int .i64 X1.C)).setCell ⟨ga, 2, none⟩ (.slice cA cq cc)).setCell ⟨ga, 3, none⟩ (.int .u64 X1.R)).setCell ⟨ga, 4, none⟩ (.slice cB X1.n cb)).setCell ⟨ga, 5, none⟩ (.slice cC X1.n cd)) _ _ at hVc_
      have hsz_ : ((((((W7c.setCell ⟨ga, 0, none⟩ (.int .i64 X1.T)).setCell ⟨ga, 1, none⟩ (.int .i64 X1.C)).setCell ⟨ga, 2, none⟩ (.slice cA cq cc)).setCell ⟨ga, 3, none⟩ (.int .u64 X1.R)).setCell ⟨ga, 4, none⟩ (.slice cB X1.n cb)).setCell ⟨ga, 5, none⟩ (.slice cC X1.n cd)).heap.size = W7c.heap.size := by simp [World.setCell]
      generalize ((((((W7c.setCell ⟨ga, 0, none⟩ (.int .i64 X1.T)).setCell ⟨ga, 1, none⟩ (.int .i64 X1.C)).setCell ⟨ga, 2, none⟩ (.slice cA cq cc)).setCell ⟨ga, 3, none⟩ (.int .u64 X1.R)).setCell ⟨ga, 4, none⟩ (.slice cB X1.n cb)).setCell ⟨ga, 5, none⟩ (.slice cC X1.n cd)) = wg at *
      have hlg_ : ga < wg.heap.size := by rw [hsz_]; exact hgr
      clear hk_ hsz_ hgr hoc hb0 hVc hWr hbc hbV hkj f0 f1 f2 f3 f4 f5 e0 e1 e2 e3 e4 e5 ef0 ef1 ef2 ef3 ef4 ef5
      have hbx : BoxW wg ga X1 := ⟨_, hb0_, hVc_⟩
      clear hb0_ hVc_ nc nc' hgc
      go_upto_region 22 with (fail)
      obtain ⟨hx_, hS, hH, hL, hK4⟩ := boxes4n wg (.cells #[.int .i64 0, .int .i64 0, .int .i64 0] 3) (.cells #[.int .i64 0, .int .i64 0, .int .i64 0] 3) (.cells #[.slice none 0 0, .slice none 0 0, .slice none 0 0] 25) (.cells #[.int .i64 3, .int .i64 6, .int .i64 5, .int .i64 4] 3)
      generalize (((wg.alloc (.cells #[.int .i64 0, .int .i64 0, .int .i64 0] 3)).alloc (.cells #[.int .i64 0, .int .i64 0, .int .i64 0] 3)).alloc (.cells #[.slice none 0 0, .slice none 0 0, .slice none 0 0] 25)).alloc (.cells #[.int .i64 3, .int .i64 6, .int .i64 5, .int .i64 4] 3) = wq at *
      replace hbx := hbx.ext hx_
      have hW2 := hWs_.trans hx_
      have hlga : ga < wg.heap.size := hlg_
      have hlsw : w.heap.size ≤ wg.heap.size := hWs_.size
      generalize wg.heap.size = gS at *
      clear hx_ hWs_ hlg_
      obtain ⟨gs, hgs⟩ : ∃ gs, gs = wq.heap.size := ⟨_, rfl⟩
      have hgr : gs ≤ wq.heap.size := Nat.le_of_eq hgs
      have hlK : gS + 1 + 1 + 1 < gs := by rw [hgs]; exact (Array.getElem?_eq_some_iff.1 hK4).1
      clear hgs
      have hS3 : C3 wq gS 3 fun i => .int .i64 (((fun _ => 0 : Nat → Nat) i : Nat) : Int) := hS
      have hH3 : C3 wq (gS + 1) 3 fun i => .int .i64 ((fun _ => 0 : Nat → Int) i) := hH
      have hL3 : C3 wq (gS + 1 + 1) 25 (fun _ => .slice none 0 0) := hL
      have hsafe : SafeP N j τ0 X1 0 (fun _ => 0) (fun _ => 0) (fun _ => 0) (fun _ => ([] : List Res).map Res.n) [] 0 := ⟨hshr, fun a h1 h2 => Thr.new hN5 (by omega) (by omega) hN1 (by omega) (fun _ => rfl) (by omega) (by omega) (by omega), (fun _ => by simp), (by intro a x hx; cases hx), (fun a b _ _ _ _ _ _ => rfl), (by intro x hx; cases hx), (fun a _ _ h => absurd h (by decide))⟩
      clear hS hH hL hshr
      go_wp2
      go_loopw [17, 22] (fun Rv iv wr => ∃ (i : Nat) (Xj : WldK) (k : Nat) (st : Nat → Nat) (hv own : Nat → Int) (rs : Nat → List Res) (lg : Nat → Value) (R : List Int), iv = .int .i64 (i : Int) ∧ i ≤ m ∧ BoxW wr ga Xj ∧ WOk Xj ∧ SafeP N j τ0 Xj k st hv own (fun a => (rs a).map Res.n) R i ∧ C3 wr gS 3 (fun a => .int .i64 ((st a : Nat) : Int)) ∧ C3 wr (gS + 1) 3 (fun a => .int .i64 (hv a)) ∧ C3 wr (gS + 1 + 1) 25 lg ∧ wr.heap[gS + 1 + 1 + 1]? = some (.cells #[.int .i64 3, .int .i64 6, .int .i64 5, .int .i64 4] 3 (0, 0)) ∧ IntOwn wr gs Rv R.length R ∧ (∀ a, ResOwn wr gs (lg a) (rs a).length (rs a)) ∧ (∀ a, GoodR (rs a)) ∧ (∀ a b : Nat, a ≠ b → ∀ g, (lg a).ownBlock = some g → (lg b).ownBlock ≠ some g) ∧ R.length ≤ i ∧ Ext w wr ∧ gs ≤ wr.heap.size) (fun _ iv _ => m - (intOf iv).toNat)
      case atStart => exact ⟨0, X1, 0, fun _ => 0, fun _ => 0, fun _ => 0, fun _ => [], fun _ => .slice none 0 0, [], rfl, Nat.zero_le _, hbx, hk1, hsafe, hS3, hH3, hL3, hK4, IntOwn.nil _ _, fun _ => ResOwn.nil _ _, (by intro a r hr; cases hr), (by intro a b _ g h; simp [Value.ownBlock] at h), Nat.le_refl _, hW2, hgr⟩
      case round =>
        clear hbx hk1 hsafe hS3 hH3 hL3 hK4 hW2 hgr
        obtain ⟨i, Xj, k, st, hv, own, rs, lg, R, rfl, hi, hbx, hkj, hsafe, hS3, hH3, hL3, hK4, hR, hlog, hgood, hne, hRl, hWr, hgr⟩ := hrel
        rcases (Nat.lt_or_ge i m).symm with him | him
        · obtain rfl : i = m := by omega
          have hiI : ¬ (i : Int) < (i : Int) := by omega
          clear hK4 hR hlog hgood hne hbx
          go_wp2
          go_ret
          exact ⟨rfl, hWr⟩
        have hiI : (i : Int) < (m : Int) := by omega
        have hthr := fun a h1 h2 => hsafe.thr a h1 h2
        obtain ⟨adr, z, rfl, hcz, hzz⟩ := bytes_cell (hM.ext hWr) him
        have hy1 : IntKind.i64.wrap (z : Int) = (z : Int) := by rw [IntKind.wrap_i64]; omega
        have hy2 : Int.tmod (z : Int) 2 = (z : Int) % 2 := by rw [Int.tmod_eq_emod_of_nonneg (by omega)]
        have hy3 : IntKind.i64.wrap ((z : Int) % 2) = (z : Int) % 2 := by rw [IntKind.wrap_i64]; omega
        obtain ⟨me, hme1, hme2, hmeq⟩ : ∃ me : Nat, 1 ≤ me ∧ me ≤ 2 ∧ (1 : Int) + (z : Int) % 2 = (me : Int) := ⟨1 + z % 2, by omega, by omega, by omega⟩
        have hy4 : IntKind.i64.wrap (me : Int) = (me : Int) := by rw [IntKind.wrap_i64]; omega
        have hme3 : (me : Int) < 3 := by omega
        have hst4 := (hthr me hme1 hme2).st4
        have hst4I : ((st me : Nat) : Int) < 4 := by omega
        clear hthr
        have hSm := (hS3.at (i := me) (by omega)).1
        have hSf := (hS3.at (i := me) (by omega)).2
        have hHm := (hH3.at (i := me) (by omega)).1
        have hHf := (hH3.at (i := me) (by omega)).2
        have hKm := kinds_at hK4 hst4
        by_cases hsk : st me = 2 ∧ hv me = 0
        case' pos =>
          obtain ⟨hs2, hh0⟩ := hsk
          have hκ : kindS (st me) = 5 := by rw [hs2]; rfl
          rw [hκ] at hKm
          rw [hs2] at hSm hKm
          rw [show (((2 : Nat) : Int)) = 2 from rfl] at hSm
          have hh0B : (hv me == 0) = true := beq_iff_eq.2 hh0
          rw [hh0] at hHm
          clear hh0B hκ
          go_upto_region 28 with (fail)
          clear hcz hSm hSf hHm hHf hKm
          replace hsafe := hsafe.skip hN5 hN1 (by omega) hme1 hme2 hs2 hh0
          obtain ⟨ct_, hct_, hbt_⟩ : ∃ cs : List Value, wr.heap[gS]? = some (.cells cs.toArray 3 (0, 0)) ∧ boxish cs = true := ⟨_, hS3, rfl⟩
          have hbut : But (gS) wr (wr.setCell ⟨gS, me, none⟩ (.int .i64 3)) := fun k o hk ho => (setAll_other (g := gS) (k := k) hk [.int .i64 3] me wr).trans ho
          have hsz_ : (wr.setCell ⟨gS, me, none⟩ (.int .i64 3)).heap.size = wr.heap.size := by simp [World.setCell]
          have hWr2 : Ext w (wr.setCell ⟨gS, me, none⟩ (.int .i64 3)) := set_ext hWr (by omega)
          have hS2 := hS3.set (i := me) (by omega) (.int .i64 3)
          have hH2 := hH3.keep (w' := (wr.setCell ⟨gS, me, none⟩ (.int .i64 3))) (fun o ho => hbut _ _ (by omega) ho)
          have hL2 := hL3.keep (w' := (wr.setCell ⟨gS, me, none⟩ (.int .i64 3))) (fun o ho => hbut _ _ (by omega) ho)
          have hK2 := hbut _ _ (by omega) hK4
          have hbx2 := hbx.but3 hbut hct_ hbt_ (by omega) hkj.2.2
          have hR2 := hR.kept (w' := (wr.setCell ⟨gS, me, none⟩ (.int .i64 3))) (fun g o hb _ ho => hbut _ _ (by omega) ho)
          have hlog2 := fun a => (hlog a).kept (w' := (wr.setCell ⟨gS, me, none⟩ (.int .i64 3))) (fun g o hb ho => hbut _ _ (by omega) ho)
          replace hgr : gs ≤ (wr.setCell ⟨gS, me, none⟩ (.int .i64 3)).heap.size := by rw [hsz_]; exact hgr
          clear hS3 hH3 hL3 hK4 hbx hR hlog hWr hct_ hbt_ hbut hsz_ ct_ 
          generalize (wr.setCell ⟨gS, me, none⟩ (.int .i64 3)) = wr at *
          have hbx := hbx2
          clear hbx2
          have hR := hR2
          clear hR2
          have hlog := hlog2
          clear hlog2
          have hWr := hWr2
          clear hWr2
          have hK4 := hK2
          clear hK2
          have hS3 := hS2
          clear hS2
          have hH3 := hH2
          clear hH2
          have hL3 := hL2
          clear hL2
          rw [show (Value.int .i64 3) = .int .i64 (((3 : Nat) : Nat) : Int) from rfl, up_comp (fun x : Nat => Value.int .i64 (x : Int))] at hS3
          have hst3 : up st me 3 me = 3 := up_same _ _ _
          generalize up st me 3 = st at *
          have hs : st me = 2 → hv me ≠ 0 := fun e => by omega
          have hst4 : st me < 4 := by omega
          have HS2 := Lib.hid hst3
          clear hst3 hh0 hst4I hs2
          have hst4I : ((st me : Nat) : Int) < 4 := by omega
          have hSm := (hS3.at (i := me) (by omega)).1
          have hSf := (hS3.at (i := me) (by omega)).2
          have hHm := (hH3.at (i := me) (by omega)).1
          have hHf := (hH3.at (i := me) (by omega)).2
          have hKm := kinds_at hK4 hst4
        case' neg =>
          have hs : st me = 2 → hv me ≠ 0 := fun e e2 => hsk ⟨e, e2⟩
          clear hsk
          by_cases hs2 : st me = 2
          case' pos =>
            have hk5 : (kindS (st me) == 5) = true := by rw [kind5 hst4]; exact decide_eq_true hs2
            have hh0B : (hv me == 0) = false := beq_eq_false_iff_ne.2 (hs hs2)
            have HS2 := Lib.hid hs2
            clear hs2
            go_upto_region 28 with (fail)
            clear hcz hk5 hh0B
          case' neg =>
            have hk5 : (kindS (st me) == 5) = false := by rw [kind5 hst4]; exact decide_eq_false hs2
            have HS2 := Lib.hid hs2
            clear hs2
            go_upto_region 28 with (fail)
            clear hcz hk5
        all_goals
          have hX : ∀ wx, Ext wr wx → wx.cell? ⟨gS, me, none⟩ = some (.int .i64 ((st me : Nat) : Int)) ∧ wx.cell? ⟨gS + 1 + 1 + 1, st me, none⟩ = some (.int .i64 (kindS (st me))) ∧ wx.cell? ⟨gS + 1, me, none⟩ = some (.int .i64 (hv me)) := fun wx hx => ⟨hx.cell hSm, hx.cell hKm, hx.cell hHm⟩
          clear hSm hSf hHm hHf hKm
          refine' wp_region_sure ⟨((some 103, [], none) :: (some 104, [], none) :: (some 105, [], none) :: (some 106, [1, 2], none) :: (some 107, [3], none) :: (some 108, [0, 4], none) :: (some 109, [5], none) :: (some 110, [], none) :: (some 111, [], none) :: (some 112, [7, 8], none) :: (some 113, [9], none) :: (some 114, [6, 10], none) :: (some 24, [], none) :: (none, [12, 11, 0, 1, 2, 3, 4, 5, 6, 7, 8, 9, 10, 11, 12], none) :: []), (0 :: 0 :: 0 :: 6 :: 14 :: 31 :: 63 :: 0 :: 0 :: 384 :: 896 :: 2047 :: 0 :: 8191 :: []), (true :: true :: true :: true :: true :: true :: true :: true :: true :: true :: true :: true :: true :: []), [], 0⟩ 13 220 ((0, 103) :: (1, 104) :: (2, 105) :: (3, 106) :: (4, 107) :: (5, 108) :: (6, 109) :: (7, 110) :: (8, 111) :: (9, 112) :: (10, 113) :: (11, 114) :: (12, 24) :: []) ((0, 103) :: (1, 104) :: (2, 105) :: (3, 106) :: (4, 107) :: (5, 108) :: (6, 109) :: (7, 110) :: (8, 111) :: (9, 112) :: (10, 113) :: (11, 114) :: (12, 24) :: []) (.det _ :: .det _ :: .det _ :: .det _ :: .det _ :: .det _ :: .det _ :: .det _ :: .det _ :: .det _ :: .det _ :: .det _ :: Good.box 24 #[.int .i64 0, .int .i64 0, .int .i64 0, .int .u64 0] wr.heap.size :: []) (by kernel_rfl) (by kernel_rfl) (by kernel_rfl) rfl (by kernel_rfl) (by kernel_rfl) rfl ?hone ?hend
          case hone =>
            intro CS frS VS hCS ha hV
            have qs18 := slot_val (t := 18) ha rfl
            simp only [List.getElem_toArray, List.getElem_cons_succ, List.getElem_cons_zero] at qs18
            have qs19 := slot_val (t := 19) ha rfl
            simp only [List.getElem_toArray, List.getElem_cons_succ, List.getElem_cons_zero] at qs19
            have qs21 := slot_val (t := 21) ha rfl
            simp only [List.getElem_toArray, List.getElem_cons_succ, List.getElem_cons_zero] at qs21
            have qs23 := slot_val (t := 23) ha rfl
            simp only [List.getElem_toArray, List.getElem_cons_succ, List.getElem_cons_zero] at qs23
            have HCS := Lib.hid hCS
            have HVS := Lib.hid hV
            clear ha hCS hV
            -- 0: slot 103 := Op.move t21
            refine sure_det (js := []) (ts := [21]) (gd := none) (place_at HVS.out (k := 0) rfl) (by rw [HCS.out]; kernel_rfl) ?_ ?_
            · intro wx hx ρ hρ hs hf
              have hρc := hρ.const
              have hρf := hρ.func
              obtain ⟨fx21, -⟩ := hf
              rw [qs21] at fx21
              clear hs
              clear HCS HVS qs18 qs19 qs21 qs23
              refine run_plain ?_
              refine op_move rfl fx21 ?_
              exact detK.mk
            -- 1: slot 104 := Op.move t18
            refine sure_det (js := []) (ts := [18]) (gd := none) (place_at HVS.out (k := 1) rfl) (by rw [HCS.out]; kernel_rfl) ?_ ?_
            · intro wx hx ρ hρ hs hf
              have hρc := hρ.const
              have hρf := hρ.func
              obtain ⟨fx18, -⟩ := hf
              rw [qs18] at fx18
              clear hs
              clear HCS HVS qs18 qs19 qs21 qs23
              refine run_plain ?_
              refine op_move rfl fx18 ?_
              exact detK.mk
            -- 2: slot 105 := Op.move t23
            refine sure_det (js := []) (ts := [23]) (gd := none) (place_at HVS.out (k := 2) rfl) (by rw [HCS.out]; kernel_rfl) ?_ ?_
            · intro wx hx ρ hρ hs hf
              have hρc := hρ.const
              have hρf := hρ.func
              obtain ⟨fx23, -⟩ := hf
              rw [qs23] at fx23
              clear hs
              clear HCS HVS qs18 qs19 qs21 qs23
              refine run_plain ?_
              refine op_move rfl fx23 ?_
              exact detK.mk
            -- 3: slot 106 := Op.indexAddr 35 t104 t105
            refine sure_det (js := [(1, 104), (2, 105)]) (ts := []) (gd := none) (place_at HVS.out (k := 3) rfl) (by rw [HCS.out]; kernel_rfl) ?_ ?_
            · intro wx hx ρ hρ hs hf
              have hρc := hρ.const
              have hρf := hρ.func
              obtain ⟨sn1, sn2, -⟩ := hs
              rw [place_at HVS.out (k := 1) rfl] at sn1
              replace sn1 : ρ (.tmp 104) = _ := sn1
              rw [place_at HVS.out (k := 2) rfl] at sn2
              replace sn2 : ρ (.tmp 105) = _ := sn2
              clear hf
              clear HCS HVS qs18 qs19 qs21 qs23
              refine run_plain ?_
              unfold runs
              go_simp
              exact detK.mk
            -- 4: slot 107 := Op.load 3 t106
            refine sure_det (js := [(3, 106)]) (ts := []) (gd := none) (place_at HVS.out (k := 4) rfl) (by rw [HCS.out]; kernel_rfl) ?_ ?_
            · intro wx hx ρ hρ hs hf
              have hρc := hρ.const
              have hρf := hρ.func
              obtain ⟨sn3, -⟩ := hs
              rw [place_at HVS.out (k := 3) rfl] at sn3
              replace sn3 : ρ (.tmp 106) = _ := sn3
              clear hf
              clear HCS HVS qs18 qs19 qs21 qs23
              refine run_plain ?_
              obtain ⟨p0, p1, p2⟩ := hX wx hx.drawn
              unfold runs
              go_simp
              exact detK.mk
            -- 5: slot 108 := Op.indexAddr 35 t103 t107
            refine sure_det (js := [(0, 103), (4, 107)]) (ts := []) (gd := none) (place_at HVS.out (k := 5) rfl) (by rw [HCS.out]; kernel_rfl) ?_ ?_
            · intro wx hx ρ hρ hs hf
              have hρc := hρ.const
              have hρf := hρ.func
              obtain ⟨sn0, sn4, -⟩ := hs
              rw [place_at HVS.out (k := 0) rfl] at sn0
              replace sn0 : ρ (.tmp 103) = _ := sn0
              rw [place_at HVS.out (k := 4) rfl] at sn4
              replace sn4 : ρ (.tmp 107) = _ := sn4
              clear hf
              clear HCS HVS qs18 qs19 qs21 qs23
              refine run_plain ?_
              unfold runs
              go_simp
              exact detK.mk
            -- 6: slot 109 := Op.load 3 t108
            refine sure_det (js := [(5, 108)]) (ts := []) (gd := none) (place_at HVS.out (k := 6) rfl) (by rw [HCS.out]; kernel_rfl) ?_ ?_
            · intro wx hx ρ hρ hs hf
              have hρc := hρ.const
              have hρf := hρ.func
              obtain ⟨sn5, -⟩ := hs
              rw [place_at HVS.out (k := 5) rfl] at sn5
              replace sn5 : ρ (.tmp 108) = _ := sn5
              clear hf
              clear HCS HVS qs18 qs19 qs21 qs23
              refine run_plain ?_
              obtain ⟨p0, p1, p2⟩ := hX wx hx.drawn
              unfold runs
              go_simp
              exact detK.mk
            -- 7: slot 110 := Op.move t19
            refine sure_det (js := []) (ts := [19]) (gd := none) (place_at HVS.out (k := 7) rfl) (by rw [HCS.out]; kernel_rfl) ?_ ?_
            · intro wx hx ρ hρ hs hf
              have hρc := hρ.const
              have hρf := hρ.func
              obtain ⟨fx19, -⟩ := hf
              rw [qs19] at fx19
              clear hs
              clear HCS HVS qs18 qs19 qs21 qs23
              refine run_plain ?_
              refine op_move rfl fx19 ?_
              exact detK.mk
            -- 8: slot 111 := Op.move t23
            refine sure_det (js := []) (ts := [23]) (gd := none) (place_at HVS.out (k := 8) rfl) (by rw [HCS.out]; kernel_rfl) ?_ ?_
            · intro wx hx ρ hρ hs hf
              have hρc := hρ.const
              have hρf := hρ.func
              obtain ⟨fx23, -⟩ := hf
              rw [qs23] at fx23
              clear hs
              clear HCS HVS qs18 qs19 qs21 qs23
              refine run_plain ?_
              refine op_move rfl fx23 ?_
              exact detK.mk
            -- 9: slot 112 := Op.indexAddr 35 t110 t111
            refine sure_det (js := [(7, 110), (8, 111)]) (ts := []) (gd := none) (place_at HVS.out (k := 9) rfl) (by rw [HCS.out]; kernel_rfl) ?_ ?_
            · intro wx hx ρ hρ hs hf
              have hρc := hρ.const
              have hρf := hρ.func
              obtain ⟨sn7, sn8, -⟩ := hs
              rw [place_at HVS.out (k := 7) rfl] at sn7
              replace sn7 : ρ (.tmp 110) = _ := sn7
              rw [place_at HVS.out (k := 8) rfl] at sn8
              replace sn8 : ρ (.tmp 111) = _ := sn8
              clear hf
              clear HCS HVS qs18 qs19 qs21 qs23
              refine run_plain ?_
              unfold runs
              go_simp
              exact detK.mk
            -- 10: slot 113 := Op.load 3 t112
            refine sure_det (js := [(9, 112)]) (ts := []) (gd := none) (place_at HVS.out (k := 10) rfl) (by rw [HCS.out]; kernel_rfl) ?_ ?_
            · intro wx hx ρ hρ hs hf
              have hρc := hρ.const
              have hρf := hρ.func
              obtain ⟨sn9, -⟩ := hs
              rw [place_at HVS.out (k := 9) rfl] at sn9
              replace sn9 : ρ (.tmp 112) = _ := sn9
              clear hf
              clear HCS HVS qs18 qs19 qs21 qs23
              refine run_plain ?_
              obtain ⟨p0, p1, p2⟩ := hX wx hx.drawn
              unfold runs
              go_simp
              exact detK.mk
            -- 11: slot 114 := Op.build 24 #[(0, t109, (1, t113]
            refine sure_det (js := [(6, 109), (10, 113)]) (ts := []) (gd := none) (place_at HVS.out (k := 11) rfl) (by rw [HCS.out]; kernel_rfl) ?_ ?_
            · intro wx hx ρ hρ hs hf
              have hρc := hρ.const
              have hρf := hρ.func
              obtain ⟨sn6, sn10, -⟩ := hs
              rw [place_at HVS.out (k := 6) rfl] at sn6
              replace sn6 : ρ (.tmp 109) = _ := sn6
              rw [place_at HVS.out (k := 10) rfl] at sn10
              replace sn10 : ρ (.tmp 113) = _ := sn10
              clear hf
              clear HCS HVS qs18 qs19 qs21 qs23
              refine run_plain ?_
              unfold runs
              go_simp
              exact detK.mk
            -- 12: slot 24 := Op.alloc 24
            refine sure_op (js := []) (ts := []) (gd := none) (place_at HVS.out (k := 12) rfl) (by rw [HCS.out]; kernel_rfl) ?_ ?_
            · intro wx hx ρ hρ hs hf
              have hρc := hρ.const
              have hρf := hρ.func
              clear hs
              clear hf
              clear HCS HVS qs18 qs19 qs21 qs23
              refine run_plain ?_
              refine op_alloc rfl (Try.zeroValue24 _) ?_
              exact ⟨Ext.refl _ |>.alloc (Nat.le_refl _) _, wx.heap.size, rfl, hx.size, heap_alloc_new wx _⟩
            exact trivial
          case hend =>
            intro xs wx hx hg
            have gk0 : xs 0 = _ := goods_get hg (i := 0) (j := 0) (d := 103) rfl
            have gk1 : xs 1 = _ := goods_get hg (i := 1) (j := 1) (d := 104) rfl
            have gk2 : xs 2 = _ := goods_get hg (i := 2) (j := 2) (d := 105) rfl
            have gk3 : xs 3 = _ := goods_get hg (i := 3) (j := 3) (d := 106) rfl
            have gk4 : xs 4 = _ := goods_get hg (i := 4) (j := 4) (d := 107) rfl
            have gk5 : xs 5 = _ := goods_get hg (i := 5) (j := 5) (d := 108) rfl
            have gk6 : xs 6 = _ := goods_get hg (i := 6) (j := 6) (d := 109) rfl
            have gk7 : xs 7 = _ := goods_get hg (i := 7) (j := 7) (d := 110) rfl
            have gk8 : xs 8 = _ := goods_get hg (i := 8) (j := 8) (d := 111) rfl
            have gk9 : xs 9 = _ := goods_get hg (i := 9) (j := 9) (d := 112) rfl
            have gk10 : xs 10 = _ := goods_get hg (i := 10) (j := 10) (d := 113) rfl
            have gk11 : xs 11 = _ := goods_get hg (i := 11) (j := 11) (d := 114) rfl
            have gk12 : boxG 24 #[.int .i64 0, .int .i64 0, .int .i64 0, .int .u64 0] wr.heap.size (xs 12) wx := goods_get hg (i := 12) (j := 12) (d := 24) rfl
            clear hg
            simp only [putAll, gk0, gk1, gk2, gk3, gk4, gk5, gk6, gk7, gk8, gk9, gk10, gk11]
            clear gk0 gk1 gk2 gk3 gk4 gk5 gk6 gk7 gk8 gk9 gk10 gk11
            generalize xs 12 = vx12 at gk12 ⊢
            clear xs
            simp only [Act.put, List.setIfInBounds_toArray, List.set_cons_zero, List.set_cons_succ, List.drop_succ_cons, List.drop_zero]
            obtain ⟨gO, rfl, hgO, hcO⟩ := gk12
            have y0 : wx.cell? ⟨gO, 0, none⟩ = some (.int .i64 0) := by simp [World.cell?, hcO]
            have yf0 : wx.frozen? ⟨gO, 0, none⟩ = false := by simp [World.frozen?, hcO]
            have y1 : wx.cell? ⟨gO, 1, none⟩ = some (.int .i64 0) := by simp [World.cell?, hcO]
            have yf1 : wx.frozen? ⟨gO, 1, none⟩ = false := by simp [World.frozen?, hcO]
            have y2 : wx.cell? ⟨gO, 2, none⟩ = some (.int .i64 0) := by simp [World.cell?, hcO]
            have yf2 : wx.frozen? ⟨gO, 2, none⟩ = false := by simp [World.frozen?, hcO]
            have y3 : wx.cell? ⟨gO, 3, none⟩ = some (.int .u64 0) := by simp [World.cell?, hcO]
            have yf3 : wx.frozen? ⟨gO, 3, none⟩ = false := by simp [World.frozen?, hcO]
            have hE2 : Ext wr ((((wx.setCell ⟨gO, 0, none⟩ (.int .i64 (kindS (st me)))).setCell ⟨gO, 1, none⟩ (.int .i64 (hv me))).setCell ⟨gO, 2, none⟩ (.int .i64 0)).setCell ⟨gO, 3, none⟩ (.int .u64 0)) := setAll_ext (g := gO) (vs := [.int .i64 (kindS (st me)), .int .i64 (hv me), .int .i64 0, .int .u64 0]) (i := 0) hx.drawn hgO
            have hO : ((((wx.setCell ⟨gO, 0, none⟩ (.int .i64 (kindS (st me)))).setCell ⟨gO, 1, none⟩ (.int .i64 (hv me))).setCell ⟨gO, 2, none⟩ (.int .i64 0)).setCell ⟨gO, 3, none⟩ (.int .u64 0)).heap[gO]? = some (.cells #[.int .i64 (kindS (st me)), .int .i64 (hv me), .int .i64 0, .int .u64 0] 24 (0, 0)) := setAll_all (vs := [.int .i64 (kindS (st me)), .int .i64 (hv me), .int .i64 0, .int .u64 0]) hcO rfl
            go_upto_region 29 with (fail)
            generalize ((((wx.setCell ⟨gO, 0, none⟩ (.int .i64 (kindS (st me)))).setCell ⟨gO, 1, none⟩ (.int .i64 (hv me))).setCell ⟨gO, 2, none⟩ (.int .i64 0)).setCell ⟨gO, 3, none⟩ (.int .u64 0)) = wo at *
            clear hcO hx hX y0 yf0 y1 yf1 y2 yf2 y3 yf3
            have hgOs : gs ≤ gO := Nat.le_trans hgr hgO
            replace hbx := hbx.ext hE2
            replace hS3 := hS3.ext hE2
            replace hH3 := hH3.ext hE2
            replace hL3 := hL3.ext hE2
            replace hK4 := heap_ext hK4 hE2
            replace hR := hR.ext hE2
            replace hlog := fun a => (hlog a).ext hE2
            replace hWr := hWr.trans hE2
            replace hgr := Nat.le_trans hgr (Below.size hE2)
            clear hE2 hgO
            have hlen := hsafe.len me
            simp only [List.length_map] at hlen
            have hF : (rs me).length < FS := by unfold FS; omega
            obtain ⟨LB, LC, hlgE, hlogV, -, -⟩ := (hlog me).log (by omega)
            have hLm : wo.cell? ⟨gS + 1 + 1, me, none⟩ = some (.slice LB (rs me).length LC) := by rw [← hlgE]; exact (hL3.at (i := me) (by omega)).1
            have hrng := (hsafe.thr me hme1 hme2).hrng
            have hkn := hsafe.shr.kn
            have hcon := fun W (hl : LogV W LB (rs me).length LC (rs me)) => enext_any FS 3 (N : Int) (me : Int) (kindS (st me)) (hv me) 0 0 (by omega) (by omega) (by omega) (by omega) (fun _ => by omega) LB (rs me).length LC (rs me) hF W hl (hgood me) (fun x hx => epochN_ok _ _ _ _ _ (fun _ => by unfold U64; omega) _ x (hgood me).u64s hx)
            clear hlgE hrng hkn hlen
            cases hE : nextT (epochT 3 (me : Int) (kindS (st me)) (hv me) FS) ((rs me).map Res.n) with
            | done od =>
              obtain ⟨hd1, hd2, hd3⟩ := hsafe.done hN5 hN1 (by omega) hme1 hme2 hs (by simpa using hF) hE
              rw [hE] at hcon
              obtain ⟨oe, oi, on, ow⟩ := od
              replace hcon : ∀ W, LogV W LB (rs me).length LC (rs me) → Calls Try.prog 17 #[.int .i64 3, .int .i64 (N : Int), .int .i64 (me : Int), .agg #[.int .i64 (kindS (st me)), .int .i64 (hv me), .int .i64 0, .int .u64 0], .slice LB (rs me).length LC] W fun e w' => e = .returned (.tuple #[.agg #[.int .i64 0, .int .i64 0, .int .u64 0, .int .u64 0, .slice none 0 0, .slice none 0 0], .agg #[.int .i64 oe, .bool oi, .int .i64 on, .int .u64 ow, .slice none 0 0], .bool true]) ∧ Ext W w' := hcon
              clear hE
              have hX : ∀ wx, Ext wo wx → wx.cell? ⟨gO, 0, none⟩ = some (.int .i64 (kindS (st me))) ∧ wx.cell? ⟨gO, 1, none⟩ = some (.int .i64 (hv me)) ∧ wx.cell? ⟨gO, 2, none⟩ = some (.int .i64 0) ∧ wx.cell? ⟨gO, 3, none⟩ = some (.int .u64 0) ∧ wx.cell? ⟨gS + 1 + 1, me, none⟩ = some (.slice LB (rs me).length LC) := fun wx hx => ⟨hx.cell (by simp [World.cell?, hO]), hx.cell (by simp [World.cell?, hO]), hx.cell (by simp [World.cell?, hO]), hx.cell (by simp [World.cell?, hO]), hx.cell hLm⟩
              clear hLm
              refine' wp_region_lates [(10, [(8, 115)]), (11, [(8, 115)])] ⟨((some 116, [], none) :: (some 117, [], none) :: (some 118, [], none) :: (some 119, [], none) :: (some 120, [], none) :: (some 121, [3, 4], none) :: (some 122, [5], none) :: (some 123, [0, 1, 2, 6], none) :: (some 115, [7], none) :: (some 124, [8], none) :: (some 125, [8], none) :: (some 126, [8], none) :: (some 25, [], none) :: (some 26, [], none) :: (none, [12, 9, 7, 0, 1, 2, 3, 4, 5, 6, 7, 8, 9, 12, 13], none) :: (none, [13, 10, 14, 0, 1, 2, 3, 4, 5, 6, 7, 8, 9, 10, 12, 13, 14], none) :: (some 27, [11, 15, 0, 1, 2, 3, 4, 5, 6, 7, 8, 9, 10, 11, 12, 13, 14, 15], none) :: []), (0 :: 0 :: 0 :: 0 :: 0 :: 24 :: 56 :: 127 :: 255 :: 511 :: 511 :: 511 :: 0 :: 0 :: 13311 :: 30719 :: 65535 :: []), (true :: true :: true :: true :: true :: true :: true :: true :: true :: true :: true :: true :: true :: true :: []), [], 0⟩ 14 220 ((0, 116) :: (1, 117) :: (2, 118) :: (3, 119) :: (4, 120) :: (5, 121) :: (6, 122) :: (7, 123) :: (8, 115) :: (9, 124) :: (10, 125) :: (11, 126) :: (12, 25) :: (13, 26) :: []) ((0, 116) :: (1, 117) :: (2, 118) :: (3, 119) :: (4, 120) :: (5, 121) :: (6, 122) :: (7, 123) :: (8, 115) :: (9, 124) :: (10, 125) :: (11, 126) :: (12, 25) :: (13, 26) :: []) (.det _ :: .det _ :: .det _ :: .det _ :: .det _ :: .det _ :: .det _ :: (Good.own fun v => v = .tuple #[.agg #[.int .i64 0, .int .i64 0, .int .u64 0, .int .u64 0, .slice none 0 0, .slice none 0 0], .agg #[.int .i64 oe, .bool oi, .int .i64 on, .int .u64 ow, .slice none 0 0], .bool true]) :: (Good.own fun v => v = .tuple #[.agg #[.int .i64 0, .int .i64 0, .int .u64 0, .int .u64 0, .slice none 0 0, .slice none 0 0], .agg #[.int .i64 oe, .bool oi, .int .i64 on, .int .u64 ow, .slice none 0 0], .bool true]) :: (Good.own fun v => v = .agg #[.int .i64 0, .int .i64 0, .int .u64 0, .int .u64 0, .slice none 0 0, .slice none 0 0]) :: (Good.own fun v => v = .agg #[.int .i64 oe, .bool oi, .int .i64 on, .int .u64 ow, .slice none 0 0]) :: (Good.own fun v => v = .bool true) :: Good.box 33 #[.int .i64 0, .int .i64 0, .int .u64 0, .int .u64 0, .slice none 0 0, .slice none 0 0] wo.heap.size :: Good.box 37 #[.int .i64 0, .bool false, .int .i64 0, .int .u64 0, .slice none 0 0] wo.heap.size :: []) (by kernel_rfl) (by kernel_rfl) (by kernel_rfl) rfl (by kernel_rfl) (by kernel_rfl) rfl (by kernel_rfl) (by kernel_rfl) (by kernel_rfl) rfl (fun _ _ _ _ _ h => h) ?hlate ?hone ?hend
              case hlate =>
                intro V hV
                refine ⟨?_, ?_, trivial⟩
                · intro wx hx ρ hρ hs hfr o ho
                  obtain ⟨sn8, -⟩ := hs
                  rw [place_at hV (k := 8) rfl] at sn8
                  rw [place_at hV (k := 10) rfl]
                  obtain rfl := Option.some.inj ho
                  have e8 : ρ (.tmp 115) = .tuple #[.agg #[.int .i64 0, .int .i64 0, .int .u64 0, .int .u64 0, .slice none 0 0, .slice none 0 0], .agg #[.int .i64 oe, .bool oi, .int .i64 on, .int .u64 ow, .slice none 0 0], .bool true] := sn8
                  refine ⟨.agg #[.int .i64 oe, .bool oi, .int .i64 on, .int .u64 ow, .slice none 0 0], fun w'' => ?_, rfl⟩
                  go_simp
                · intro wx hx ρ hρ hs hfr o ho
                  obtain ⟨sn8, -⟩ := hs
                  rw [place_at hV (k := 8) rfl] at sn8
                  rw [place_at hV (k := 11) rfl]
                  obtain rfl := Option.some.inj ho
                  have e8 : ρ (.tmp 115) = .tuple #[.agg #[.int .i64 0, .int .i64 0, .int .u64 0, .int .u64 0, .slice none 0 0, .slice none 0 0], .agg #[.int .i64 oe, .bool oi, .int .i64 on, .int .u64 ow, .slice none 0 0], .bool true] := sn8
                  refine ⟨.bool true, fun w'' => ?_, rfl⟩
                  go_simp
              case hone =>
                intro CS frS VS hCS ha hV
                have qs8 := slot_val (t := 8) ha rfl
                simp only [List.getElem_toArray, List.getElem_cons_succ, List.getElem_cons_zero] at qs8
                have qs20 := slot_val (t := 20) ha rfl
                simp only [List.getElem_toArray, List.getElem_cons_succ, List.getElem_cons_zero] at qs20
                have qs23 := slot_val (t := 23) ha rfl
                simp only [List.getElem_toArray, List.getElem_cons_succ, List.getElem_cons_zero] at qs23
                have qs24 := slot_val (t := 24) ha rfl
                simp only [List.getElem_toArray, List.getElem_cons_succ, List.getElem_cons_zero] at qs24
                have HCS := Lib.hid hCS
                have HVS := Lib.hid hV
                clear ha hCS hV
                -- 0: slot 116 := Op.move t8
                refine sure_det (js := []) (ts := [8]) (gd := none) (place_at HVS.out (k := 0) rfl) (by rw [HCS.out]; kernel_rfl) ?_ ?_
                · intro wx hx ρ hρ hs hf
                  have hρc := hρ.const
                  have hρf := hρ.func
                  obtain ⟨fx8, -⟩ := hf
                  rw [qs8] at fx8
                  clear hs
                  clear HCS HVS qs8 qs20 qs23 qs24
                  refine run_plain ?_
                  refine op_move rfl fx8 ?_
                  exact detK.mk
                -- 1: slot 117 := Op.move t23
                refine sure_det (js := []) (ts := [23]) (gd := none) (place_at HVS.out (k := 1) rfl) (by rw [HCS.out]; kernel_rfl) ?_ ?_
                · intro wx hx ρ hρ hs hf
                  have hρc := hρ.const
                  have hρf := hρ.func
                  obtain ⟨fx23, -⟩ := hf
                  rw [qs23] at fx23
                  clear hs
                  clear HCS HVS qs8 qs20 qs23 qs24
                  refine run_plain ?_
                  refine op_move rfl fx23 ?_
                  exact detK.mk
                -- 2: slot 118 := Op.load 24 t24
                refine sure_det (js := []) (ts := [24]) (gd := none) (place_at HVS.out (k := 2) rfl) (by rw [HCS.out]; kernel_rfl) ?_ ?_
                · intro wx hx ρ hρ hs hf
                  have hρc := hρ.const
                  have hρf := hρ.func
                  obtain ⟨fx24, -⟩ := hf
                  rw [qs24] at fx24
                  clear hs
                  clear HCS HVS qs8 qs20 qs23 qs24
                  refine run_plain ?_
                  obtain ⟨p0, p1, p2, p3, p4⟩ := hX wx hx.drawn
                  unfold runs
                  go_simp
                  exact detK.mk
                -- 3: slot 119 := Op.move t20
                refine sure_det (js := []) (ts := [20]) (gd := none) (place_at HVS.out (k := 3) rfl) (by rw [HCS.out]; kernel_rfl) ?_ ?_
                · intro wx hx ρ hρ hs hf
                  have hρc := hρ.const
                  have hρf := hρ.func
                  obtain ⟨fx20, -⟩ := hf
                  rw [qs20] at fx20
                  clear hs
                  clear HCS HVS qs8 qs20 qs23 qs24
                  refine run_plain ?_
                  refine op_move rfl fx20 ?_
                  exact detK.mk
                -- 4: slot 120 := Op.move t23
                refine sure_det (js := []) (ts := [23]) (gd := none) (place_at HVS.out (k := 4) rfl) (by rw [HCS.out]; kernel_rfl) ?_ ?_
                · intro wx hx ρ hρ hs hf
                  have hρc := hρ.const
                  have hρf := hρ.func
                  obtain ⟨fx23, -⟩ := hf
                  rw [qs23] at fx23
                  clear hs
                  clear HCS HVS qs8 qs20 qs23 qs24
                  refine run_plain ?_
                  refine op_move rfl fx23 ?_
                  exact detK.mk
                -- 5: slot 121 := Op.indexAddr 57 t119 t120
                refine sure_det (js := [(3, 119), (4, 120)]) (ts := []) (gd := none) (place_at HVS.out (k := 5) rfl) (by rw [HCS.out]; kernel_rfl) ?_ ?_
                · intro wx hx ρ hρ hs hf
                  have hρc := hρ.const
                  have hρf := hρ.func
                  obtain ⟨sn3, sn4, -⟩ := hs
                  rw [place_at HVS.out (k := 3) rfl] at sn3
                  replace sn3 : ρ (.tmp 119) = _ := sn3
                  rw [place_at HVS.out (k := 4) rfl] at sn4
                  replace sn4 : ρ (.tmp 120) = _ := sn4
                  clear hf
                  clear HCS HVS qs8 qs20 qs23 qs24
                  refine run_plain ?_
                  unfold runs
                  go_simp
                  exact detK.mk
                -- 6: slot 122 := Op.load 25 t121
                refine sure_det (js := [(5, 121)]) (ts := []) (gd := none) (place_at HVS.out (k := 6) rfl) (by rw [HCS.out]; kernel_rfl) ?_ ?_
                · intro wx hx ρ hρ hs hf
                  have hρc := hρ.const
                  have hρf := hρ.func
                  obtain ⟨sn5, -⟩ := hs
                  rw [place_at HVS.out (k := 5) rfl] at sn5
                  replace sn5 : ρ (.tmp 121) = _ := sn5
                  clear hf
                  clear HCS HVS qs8 qs20 qs23 qs24
                  refine run_plain ?_
                  obtain ⟨p0, p1, p2, p3, p4⟩ := hX wx hx.drawn
                  unfold runs
                  go_simp
                  exact detK.mk
                -- 7: slot 123 := Op.call { call ( 17), args := #[(i64 3), t116, t117, t118, t122], argTypes := #[3, 3, 3, 2
                refine sure_op (js := [(0, 116), (1, 117), (2, 118), (6, 122)]) (ts := []) (gd := none) (place_at HVS.out (k := 7) rfl) (by rw [HCS.out]; kernel_rfl) ?_ ?_
                · intro wx hx ρ hρ hs hf
                  have hρc := hρ.const
                  have hρf := hρ.func
                  obtain ⟨sn0, sn1, sn2, sn6, -⟩ := hs
                  rw [place_at HVS.out (k := 0) rfl] at sn0
                  replace sn0 : ρ (.tmp 116) = _ := sn0
                  rw [place_at HVS.out (k := 1) rfl] at sn1
                  replace sn1 : ρ (.tmp 117) = _ := sn1
                  rw [place_at HVS.out (k := 2) rfl] at sn2
                  replace sn2 : ρ (.tmp 118) = _ := sn2
                  rw [place_at HVS.out (k := 6) rfl] at sn6
                  replace sn6 : ρ (.tmp 122) = _ := sn6
                  clear hf
                  clear HCS HVS qs8 qs20 qs23 qs24
                  refine run_plain ?_
                  refine op_call rfl hρ Try.call17 (map_five (hρ.const _) sn0 sn1 sn2 sn6) ?_
                  refine Calls.mono (hcon _ (hlogV.ext hx.drawn)) ?_
                  rintro e w' ⟨rfl, hx5⟩
                  exact ⟨_, rfl, hx5, rfl⟩
                -- 8: slot 115 := Op.move t123
                refine sure_op (js := [(7, 123)]) (ts := []) (gd := none) (place_at HVS.out (k := 8) rfl) (by rw [HCS.out]; kernel_rfl) ?_ ?_
                · intro wx hx ρ hρ hs hf
                  have hρc := hρ.const
                  have hρf := hρ.func
                  obtain ⟨sn7, -⟩ := hs
                  rw [place_at HVS.out (k := 7) rfl] at sn7
                  replace sn7 : (ρ (.tmp 123)) = .tuple #[.agg #[.int .i64 0, .int .i64 0, .int .u64 0, .int .u64 0, .slice none 0 0, .slice none 0 0], .agg #[.int .i64 oe, .bool oi, .int .i64 on, .int .u64 ow, .slice none 0 0], .bool true] := sn7
                  clear hf
                  clear HCS HVS qs8 qs20 qs23 qs24
                  refine run_plain ?_
                  refine op_move rfl rfl ?_
                  exact ⟨Ext.refl _, sn7⟩
                -- 9: slot 124 := Op.extract t115 0
                refine sure_op (js := [(8, 115)]) (ts := []) (gd := none) (place_at HVS.out (k := 9) rfl) (by rw [HCS.out]; kernel_rfl) ?_ ?_
                · intro wx hx ρ hρ hs hf
                  have hρc := hρ.const
                  have hρf := hρ.func
                  obtain ⟨sn8, -⟩ := hs
                  rw [place_at HVS.out (k := 8) rfl] at sn8
                  replace sn8 : (ρ (.tmp 115)) = .tuple #[.agg #[.int .i64 0, .int .i64 0, .int .u64 0, .int .u64 0, .slice none 0 0, .slice none 0 0], .agg #[.int .i64 oe, .bool oi, .int .i64 on, .int .u64 ow, .slice none 0 0], .bool true] := sn8
                  clear hf
                  clear HCS HVS qs8 qs20 qs23 qs24
                  refine run_plain ?_
                  unfold runs
                  go_simp
                  first | exact ⟨Ext.refl _, rfl⟩ | exact Ext.refl _
                -- 10: slot 125 := Op.extract t115 1
                refine sure_op (js := [(8, 115)]) (ts := []) (gd := none) (place_at HVS.out (k := 10) rfl) (by rw [HCS.out]; kernel_rfl) ?_ ?_
                · intro wx hx ρ hρ hs hf
                  have hρc := hρ.const
                  have hρf := hρ.func
                  obtain ⟨sn8, -⟩ := hs
                  rw [place_at HVS.out (k := 8) rfl] at sn8
                  replace sn8 : (ρ (.tmp 115)) = .tuple #[.agg #[.int .i64 0, .int .i64 0, .int .u64 0, .int .u64 0, .slice none 0 0, .slice none 0 0], .agg #[.int .i64 oe, .bool oi, .int .i64 on, .int .u64 ow, .slice none 0 0], .bool true] := sn8
                  clear hf
                  clear HCS HVS qs8 qs20 qs23 qs24
                  refine run_plain ?_
                  unfold runs
                  go_simp
                  first | exact ⟨Ext.refl _, rfl⟩ | exact Ext.refl _
                -- 11: slot 126 := Op.extract t115 2
                refine sure_op (js := [(8, 115)]) (ts := []) (gd := none) (place_at HVS.out (k := 11) rfl) (by rw [HCS.out]; kernel_rfl) ?_ ?_
                · intro wx hx ρ hρ hs hf
                  have hρc := hρ.const
                  have hρf := hρ.func
                  obtain ⟨sn8, -⟩ := hs
                  rw [place_at HVS.out (k := 8) rfl] at sn8
                  replace sn8 : (ρ (.tmp 115)) = .tuple #[.agg #[.int .i64 0, .int .i64 0, .int .u64 0, .int .u64 0, .slice none 0 0, .slice none 0 0], .agg #[.int .i64 oe, .bool oi, .int .i64 on, .int .u64 ow, .slice none 0 0], .bool true] := sn8
                  clear hf
                  clear HCS HVS qs8 qs20 qs23 qs24
                  refine run_plain ?_
                  unfold runs
                  go_simp
                  first | exact ⟨Ext.refl _, rfl⟩ | exact Ext.refl _
                -- 12: slot 25 := Op.alloc 33
                refine sure_op (js := []) (ts := []) (gd := none) (place_at HVS.out (k := 12) rfl) (by rw [HCS.out]; kernel_rfl) ?_ ?_
                · intro wx hx ρ hρ hs hf
                  have hρc := hρ.const
                  have hρf := hρ.func
                  clear hs
                  clear hf
                  clear HCS HVS qs8 qs20 qs23 qs24
                  refine run_plain ?_
                  refine op_alloc rfl (Try.zeroValue33 _) ?_
                  exact ⟨Ext.refl _ |>.alloc (Nat.le_refl _) _, wx.heap.size, rfl, hx.size, heap_alloc_new wx _⟩
                -- 13: slot 26 := Op.alloc 37
                refine sure_op (js := []) (ts := []) (gd := none) (place_at HVS.out (k := 13) rfl) (by rw [HCS.out]; kernel_rfl) ?_ ?_
                · intro wx hx ρ hρ hs hf
                  have hρc := hρ.const
                  have hρf := hρ.func
                  clear hs
                  clear hf
                  clear HCS HVS qs8 qs20 qs23 qs24
                  refine run_plain ?_
                  refine op_alloc rfl (Try.zeroValue37 _) ?_
                  exact ⟨Ext.refl _ |>.alloc (Nat.le_refl _) _, wx.heap.size, rfl, hx.size, heap_alloc_new wx _⟩
                exact trivial
              case hend =>
                intro xs wx hx hg
                have gk0 : xs 0 = _ := goods_get hg (i := 0) (j := 0) (d := 116) rfl
                have gk1 : xs 1 = _ := goods_get hg (i := 1) (j := 1) (d := 117) rfl
                have gk2 : xs 2 = _ := goods_get hg (i := 2) (j := 2) (d := 118) rfl
                have gk3 : xs 3 = _ := goods_get hg (i := 3) (j := 3) (d := 119) rfl
                have gk4 : xs 4 = _ := goods_get hg (i := 4) (j := 4) (d := 120) rfl
                have gk5 : xs 5 = _ := goods_get hg (i := 5) (j := 5) (d := 121) rfl
                have gk6 : xs 6 = _ := goods_get hg (i := 6) (j := 6) (d := 122) rfl
                have gk7 : (xs 7) = .tuple #[.agg #[.int .i64 0, .int .i64 0, .int .u64 0, .int .u64 0, .slice none 0 0, .slice none 0 0], .agg #[.int .i64 oe, .bool oi, .int .i64 on, .int .u64 ow, .slice none 0 0], .bool true] := goods_get hg (i := 7) (j := 7) (d := 123) rfl
                have gk8 : (xs 8) = .tuple #[.agg #[.int .i64 0, .int .i64 0, .int .u64 0, .int .u64 0, .slice none 0 0, .slice none 0 0], .agg #[.int .i64 oe, .bool oi, .int .i64 on, .int .u64 ow, .slice none 0 0], .bool true] := goods_get hg (i := 8) (j := 8) (d := 115) rfl
                have gk9 : (xs 9) = .agg #[.int .i64 0, .int .i64 0, .int .u64 0, .int .u64 0, .slice none 0 0, .slice none 0 0] := goods_get hg (i := 9) (j := 9) (d := 124) rfl
                have gk10 : (xs 10) = .agg #[.int .i64 oe, .bool oi, .int .i64 on, .int .u64 ow, .slice none 0 0] := goods_get hg (i := 10) (j := 10) (d := 125) rfl
                have gk11 : (xs 11) = .bool true := goods_get hg (i := 11) (j := 11) (d := 126) rfl
                have gk12 : boxG 33 #[.int .i64 0, .int .i64 0, .int .u64 0, .int .u64 0, .slice none 0 0, .slice none 0 0] wo.heap.size (xs 12) wx := goods_get hg (i := 12) (j := 12) (d := 25) rfl
                have gk13 : boxG 37 #[.int .i64 0, .bool false, .int .i64 0, .int .u64 0, .slice none 0 0] wo.heap.size (xs 13) wx := goods_get hg (i := 13) (j := 13) (d := 26) rfl
                clear hg
                simp only [putAll, gk0, gk1, gk2, gk3, gk4, gk5, gk6]
                clear gk0 gk1 gk2 gk3 gk4 gk5 gk6
                generalize xs 7 = vx7 at gk7 ⊢
                generalize xs 8 = vx8 at gk8 ⊢
                generalize xs 9 = vx9 at gk9 ⊢
                generalize xs 10 = vx10 at gk10 ⊢
                generalize xs 11 = vx11 at gk11 ⊢
                generalize xs 12 = vx12 at gk12 ⊢
                generalize xs 13 = vx13 at gk13 ⊢
                clear xs
                simp only [Act.put, List.setIfInBounds_toArray, List.set_cons_zero, List.set_cons_succ, List.drop_succ_cons, List.drop_zero]
                obtain ⟨gA, rfl, hgA, hcA⟩ := gk12
                obtain ⟨gB, rfl, hgB, hcB⟩ := gk13
                obtain rfl := gk9
                obtain rfl := gk10
                obtain rfl := gk11
                have hne_ : gA ≠ gB := fun e => by subst e; rw [hcA] at hcB; cases hcB
                have hE2 : Ext wo (((((((((((wx.setCell ⟨gA, 0, none⟩ (.int .i64 0)).setCell ⟨gA, 1, none⟩ (.int .i64 0)).setCell ⟨gA, 2, none⟩ (.int .u64 0)).setCell ⟨gA, 3, none⟩ (.int .u64 0)).setCell ⟨gA, 4, none⟩ (.slice none 0 0)).setCell ⟨gA, 5, none⟩ (.slice none 0 0)).setCell ⟨gB, 0, none⟩ (.int .i64 oe)).setCell ⟨gB, 1, none⟩ (.bool oi)).setCell ⟨gB, 2, none⟩ (.int .i64 on)).setCell ⟨gB, 3, none⟩ (.int .u64 ow)).setCell ⟨gB, 4, none⟩ (.slice none 0 0)) := setAll_ext (g := gB) (vs := [.int .i64 oe, .bool oi, .int .i64 on, .int .u64 ow, .slice none 0 0]) (i := 0) (setAll_ext (g := gA) (vs := [.int .i64 0, .int .i64 0, .int .u64 0, .int .u64 0, .slice none 0 0, .slice none 0 0]) (i := 0) hx.drawn hgA) hgB
                have hAc : (((((((((((wx.setCell ⟨gA, 0, none⟩ (.int .i64 0)).setCell ⟨gA, 1, none⟩ (.int .i64 0)).setCell ⟨gA, 2, none⟩ (.int .u64 0)).setCell ⟨gA, 3, none⟩ (.int .u64 0)).setCell ⟨gA, 4, none⟩ (.slice none 0 0)).setCell ⟨gA, 5, none⟩ (.slice none 0 0)).setCell ⟨gB, 0, none⟩ (.int .i64 oe)).setCell ⟨gB, 1, none⟩ (.bool oi)).setCell ⟨gB, 2, none⟩ (.int .i64 on)).setCell ⟨gB, 3, none⟩ (.int .u64 ow)).setCell ⟨gB, 4, none⟩ (.slice none 0 0)).heap[gA]? = some (.cells #[.int .i64 0, .int .i64 0, .int .u64 0, .int .u64 0, .slice none 0 0, .slice none 0 0] 33 (0, 0)) := (setAll_other (g := gB) hne_ [.int .i64 oe, .bool oi, .int .i64 on, .int .u64 ow, .slice none 0 0] 0 (setAll gA 0 [.int .i64 0, .int .i64 0, .int .u64 0, .int .u64 0, .slice none 0 0, .slice none 0 0] wx)).trans (setAll_all (vs := [.int .i64 0, .int .i64 0, .int .u64 0, .int .u64 0, .slice none 0 0, .slice none 0 0]) hcA rfl)
                have hBm : (setAll gA 0 [.int .i64 0, .int .i64 0, .int .u64 0, .int .u64 0, .slice none 0 0, .slice none 0 0] wx).heap[gB]? = _ := (setAll_other (g := gA) (Ne.symm hne_) [.int .i64 0, .int .i64 0, .int .u64 0, .int .u64 0, .slice none 0 0, .slice none 0 0] 0 wx).trans hcB
                have hOu : (((((((((((wx.setCell ⟨gA, 0, none⟩ (.int .i64 0)).setCell ⟨gA, 1, none⟩ (.int .i64 0)).setCell ⟨gA, 2, none⟩ (.int .u64 0)).setCell ⟨gA, 3, none⟩ (.int .u64 0)).setCell ⟨gA, 4, none⟩ (.slice none 0 0)).setCell ⟨gA, 5, none⟩ (.slice none 0 0)).setCell ⟨gB, 0, none⟩ (.int .i64 oe)).setCell ⟨gB, 1, none⟩ (.bool oi)).setCell ⟨gB, 2, none⟩ (.int .i64 on)).setCell ⟨gB, 3, none⟩ (.int .u64 ow)).setCell ⟨gB, 4, none⟩ (.slice none 0 0)).heap[gB]? = some (.cells #[.int .i64 oe, .bool oi, .int .i64 on, .int .u64 ow, .slice none 0 0] 37 (0, 0)) := setAll_all (vs := [.int .i64 oe, .bool oi, .int .i64 on, .int .u64 ow, .slice none 0 0]) hBm rfl
                have y0 : wx.cell? ⟨gA, 0, none⟩ = some (.int .i64 0) := by simp [World.cell?, hcA]
                have yf0 : wx.frozen? ⟨gA, 0, none⟩ = false := by simp [World.frozen?, hcA]
                have y1 : wx.cell? ⟨gA, 1, none⟩ = some (.int .i64 0) := by simp [World.cell?, hcA]
                have yf1 : wx.frozen? ⟨gA, 1, none⟩ = false := by simp [World.frozen?, hcA]
                have y2 : wx.cell? ⟨gA, 2, none⟩ = some (.int .u64 0) := by simp [World.cell?, hcA]
                have yf2 : wx.frozen? ⟨gA, 2, none⟩ = false := by simp [World.frozen?, hcA]
                have y3 : wx.cell? ⟨gA, 3, none⟩ = some (.int .u64 0) := by simp [World.cell?, hcA]
                have yf3 : wx.frozen? ⟨gA, 3, none⟩ = false := by simp [World.frozen?, hcA]
                have y4 : wx.cell? ⟨gA, 4, none⟩ = some (.slice none 0 0) := by simp [World.cell?, hcA]
                have yf4 : wx.frozen? ⟨gA, 4, none⟩ = false := by simp [World.frozen?, hcA]
                have y5 : wx.cell? ⟨gA, 5, none⟩ = some (.slice none 0 0) := by simp [World.cell?, hcA]
                have yf5 : wx.frozen? ⟨gA, 5, none⟩ = false := by simp [World.frozen?, hcA]
                have u0 : wx.cell? ⟨gB, 0, none⟩ = some (.int .i64 0) := by simp [World.cell?, hcB]
                have uf0 : wx.frozen? ⟨gB, 0, none⟩ = false := by simp [World.frozen?, hcB]
                have u1 : wx.cell? ⟨gB, 1, none⟩ = some (.bool false) := by simp [World.cell?, hcB]
                have uf1 : wx.frozen? ⟨gB, 1, none⟩ = false := by simp [World.frozen?, hcB]
                have u2 : wx.cell? ⟨gB, 2, none⟩ = some (.int .i64 0) := by simp [World.cell?, hcB]
                have uf2 : wx.frozen? ⟨gB, 2, none⟩ = false := by simp [World.frozen?, hcB]
                have u3 : wx.cell? ⟨gB, 3, none⟩ = some (.int .u64 0) := by simp [World.cell?, hcB]
                have uf3 : wx.frozen? ⟨gB, 3, none⟩ = false := by simp [World.frozen?, hcB]
                have u4 : wx.cell? ⟨gB, 4, none⟩ = some (.slice none 0 0) := by simp [World.cell?, hcB]
                have uf4 : wx.frozen? ⟨gB, 4, none⟩ = false := by simp [World.frozen?, hcB]
                go_upto_region 30 with (fail)
                generalize (((((((((((wx.setCell ⟨gA, 0, none⟩ (.int .i64 0)).setCell ⟨gA, 1, none⟩ (.int .i64 0)).setCell ⟨gA, 2, none⟩ (.int .u64 0)).setCell ⟨gA, 3, none⟩ (.int .u64 0)).setCell ⟨gA, 4, none⟩ (.slice none 0 0)).setCell ⟨gA, 5, none⟩ (.slice none 0 0)).setCell ⟨gB, 0, none⟩ (.int .i64 oe)).setCell ⟨gB, 1, none⟩ (.bool oi)).setCell ⟨gB, 2, none⟩ (.int .i64 on)).setCell ⟨gB, 3, none⟩ (.int .u64 ow)).setCell ⟨gB, 4, none⟩ (.slice none 0 0)) = wn at *
                clear hcA hcB hBm hx hX hcon hlogV y0 yf0 y1 yf1 y2 yf2 y3 yf3 y4 yf4 y5 yf5 u0 uf0 u1 uf1 u2 uf2 u3 uf3 u4 uf4
                have hgAs : gs ≤ gA := Nat.le_trans hgr hgA
                have hgBs : gs ≤ gB := Nat.le_trans hgr hgB
                replace hO := heap_ext hO hE2
                replace hbx := hbx.ext hE2
                replace hS3 := hS3.ext hE2
                replace hH3 := hH3.ext hE2
                replace hL3 := hL3.ext hE2
                replace hK4 := heap_ext hK4 hE2
                replace hR := hR.ext hE2
                replace hlog := fun a => (hlog a).ext hE2
                replace hWr := hWr.trans hE2
                replace hgr := Nat.le_trans hgr (Below.size hE2)
                clear hE2 hgA hgB hne_
                replace hd1 : st me = 1 → 0 ≤ on ∧ on ≤ (N : Int) ∧ on ∉ R ∧ (0 < on → up hv me on 1 ≠ up hv me on 2) ∧ SafeP N j τ0 Xj k (up st me 2) (up hv me on) (up own me on) (up (fun a => (rs a).map Res.n) me []) R i := hd1
                have hns : up (fun a => (rs a).map Res.n) me [] = fun a => (up rs me [] a).map Res.n := (up_map (rs := rs) (me := me) (l := [])).symm
                rw [hns] at hd1 hd2 hd3
                clear hns
                have hLm := (hL3.at (i := me) (by omega)).1
                have hLf := (hL3.at (i := me) (by omega)).2
                go_upto_region 32 with (fail)
                clear hLm hLf hAc
                have hlf := lg_forms hlog
                obtain ⟨ct_, hct_, hbt_⟩ : ∃ cs : List Value, wn.heap[gS + 1 + 1]? = some (.cells cs.toArray 25 (0, 0)) ∧ boxish cs = true := lg_box hL3 hlf
                have hbut : But (gS + 1 + 1) wn (wn.setCell ⟨gS + 1 + 1, me, none⟩ (.slice none 0 0)) := fun k o hk ho => (setAll_other (g := gS + 1 + 1) (k := k) hk [.slice none 0 0] me wn).trans ho
                have hsz_ : (wn.setCell ⟨gS + 1 + 1, me, none⟩ (.slice none 0 0)).heap.size = wn.heap.size := by simp [World.setCell]
                have hWr2 : Ext w (wn.setCell ⟨gS + 1 + 1, me, none⟩ (.slice none 0 0)) := set_ext hWr (by omega)
                have hL2 := hL3.set (i := me) (by omega) (.slice none 0 0)
                have hS2 := hS3.keep (w' := (wn.setCell ⟨gS + 1 + 1, me, none⟩ (.slice none 0 0))) (fun o ho => hbut _ _ (by omega) ho)
                have hH2 := hH3.keep (w' := (wn.setCell ⟨gS + 1 + 1, me, none⟩ (.slice none 0 0))) (fun o ho => hbut _ _ (by omega) ho)
                have hK2 := hbut _ _ (by omega) hK4
                have hbx2 := hbx.but3 hbut hct_ hbt_ (by omega) hkj.2.2
                have hR2 := hR.kept (w' := (wn.setCell ⟨gS + 1 + 1, me, none⟩ (.slice none 0 0))) (fun g o hb _ ho => hbut _ _ (by omega) ho)
                have hlog2 := fun a => (hlog a).kept (w' := (wn.setCell ⟨gS + 1 + 1, me, none⟩ (.slice none 0 0))) (fun g o hb ho => hbut _ _ (by omega) ho)
                have hO2 := hbut _ _ (by omega) hO
                have hOu2 := hbut _ _ (by omega) hOu
                replace hgr : gs ≤ (wn.setCell ⟨gS + 1 + 1, me, none⟩ (.slice none 0 0)).heap.size := by rw [hsz_]; exact hgr
                clear hS3 hH3 hL3 hK4 hbx hR hlog hWr hct_ hbt_ hbut hsz_ ct_ hO hOu
                generalize (wn.setCell ⟨gS + 1 + 1, me, none⟩ (.slice none 0 0)) = wf at *
                have hbx := hbx2
                clear hbx2
                have hR := hR2
                clear hR2
                have hlog := hlog2
                clear hlog2
                have hWr := hWr2
                clear hWr2
                have hO := hO2
                clear hO2
                have hOu := hOu2
                clear hOu2
                have hK4 := hK2
                clear hK2
                have hS3 := hS2
                clear hS2
                have hH3 := hH2
                clear hH2
                have hL3 := hL2
                clear hL2
                have hlog2 := log_up (me := me) (fun a _ => hlog a) (ResOwn.nil wf gs)
                have hgood2 := good_up (me := me) hgood (show GoodR [] by intro r hr; cases hr)
                have hne2 := ne_up (me := me) (v := .slice none 0 0) hne (by intro b _ g h; simp [Value.ownBlock] at h)
                generalize up rs me [] = rs2 at *
                generalize up lg me (.slice none 0 0) = lg2 at *
                clear hlog hgood hne hsafe
                have hlog := hlog2
                clear hlog2
                have o0 : wf.cell? ⟨gO, 0, none⟩ = some (.int .i64 (kindS (st me))) := by simp [World.cell?, hO]
                have o1 : wf.cell? ⟨gO, 1, none⟩ = some (.int .i64 (hv me)) := by simp [World.cell?, hO]
                have o2 : wf.cell? ⟨gO, 2, none⟩ = some (.int .i64 0) := by simp [World.cell?, hO]
                have o3 : wf.cell? ⟨gO, 3, none⟩ = some (.int .u64 0) := by simp [World.cell?, hO]
                by_cases hs1 : st me = 1
                all_goals try (exfalso; have := HS2.out; omega)
                try case' pos =>
                  have hk5 : (kindS (st me) == 5) = false := by rw [kind5 hst4]; exact decide_eq_false (by omega)
                  have hk6 : (kindS (st me) == 6) = true := by rw [kind6 hst4]; exact decide_eq_true hs1
                  obtain ⟨ho1, ho2, ho3, ho4, ho5⟩ := hd1 hs1
                  have hsf : SafeP N j τ0 Xj k (up st me ((st me + 1) % 4)) (up hv me on) (up own me on) (fun a => (rs2 a).map Res.n) R i := by
                    rw [show (st me + 1) % 4 = 2 by omega]; exact ho5
                  have HS1 := Lib.hid hs1
                  clear hs1 hd1 hd2 hd3 ho5
                  have hHm := (hH3.at (i := me) (by omega)).1
                  have hHf := (hH3.at (i := me) (by omega)).2
                  have u0 : wf.cell? ⟨gB, 0, none⟩ = some (.int .i64 oe) := by simp [World.cell?, hOu]
                  have u1 : wf.cell? ⟨gB, 1, none⟩ = some (.bool oi) := by simp [World.cell?, hOu]
                  have u2 : wf.cell? ⟨gB, 2, none⟩ = some (.int .i64 on) := by simp [World.cell?, hOu]
                  have u3 : wf.cell? ⟨gB, 3, none⟩ = some (.int .u64 ow) := by simp [World.cell?, hOu]
                  have u4 : wf.cell? ⟨gB, 4, none⟩ = some (.slice none 0 0) := by simp [World.cell?, hOu]
                  go_upto_region 34 with (fail)
                  clear o0 o1 o2 o3 u0 u1 u2 u3 u4 hHm hHf
                  obtain ⟨ct_, hct_, hbt_⟩ : ∃ cs : List Value, wf.heap[gS + 1]? = some (.cells cs.toArray 3 (0, 0)) ∧ boxish cs = true := ⟨_, hH3, rfl⟩
                  have hbut : But (gS + 1) wf (wf.setCell ⟨gS + 1, me, none⟩ (.int .i64 on)) := fun k o hk ho => (setAll_other (g := gS + 1) (k := k) hk [.int .i64 on] me wf).trans ho
                  have hsz_ : (wf.setCell ⟨gS + 1, me, none⟩ (.int .i64 on)).heap.size = wf.heap.size := by simp [World.setCell]
                  have hWr2 : Ext w (wf.setCell ⟨gS + 1, me, none⟩ (.int .i64 on)) := set_ext hWr (by omega)
                  have hH2 := hH3.set (i := me) (by omega) (.int .i64 on)
                  have hS2 := hS3.keep (w' := (wf.setCell ⟨gS + 1, me, none⟩ (.int .i64 on))) (fun o ho => hbut _ _ (by omega) ho)
                  have hL2 := hL3.keep (w' := (wf.setCell ⟨gS + 1, me, none⟩ (.int .i64 on))) (fun o ho => hbut _ _ (by omega) ho)
                  have hK2 := hbut _ _ (by omega) hK4
                  have hbx2 := hbx.but3 hbut hct_ hbt_ (by omega) hkj.2.2
                  have hR2 := hR.kept (w' := (wf.setCell ⟨gS + 1, me, none⟩ (.int .i64 on))) (fun g o hb _ ho => hbut _ _ (by omega) ho)
                  have hlog2 := fun a => (hlog a).kept (w' := (wf.setCell ⟨gS + 1, me, none⟩ (.int .i64 on))) (fun g o hb ho => hbut _ _ (by omega) ho)
                  have hO2 := hbut _ _ (by omega) hO
                  have hOu2 := hbut _ _ (by omega) hOu
                  replace hgr : gs ≤ (wf.setCell ⟨gS + 1, me, none⟩ (.int .i64 on)).heap.size := by rw [hsz_]; exact hgr
                  clear hS3 hH3 hL3 hK4 hbx hR hlog hWr hct_ hbt_ hbut hsz_ ct_ hO hOu
                  generalize (wf.setCell ⟨gS + 1, me, none⟩ (.int .i64 on)) = wf at *
                  have hbx := hbx2
                  clear hbx2
                  have hR := hR2
                  clear hR2
                  have hlog := hlog2
                  clear hlog2
                  have hWr := hWr2
                  clear hWr2
                  have hO := hO2
                  clear hO2
                  have hOu := hOu2
                  clear hOu2
                  have hK4 := hK2
                  clear hK2
                  have hS3 := hS2
                  clear hS2
                  have hH3 := hH2
                  clear hH2
                  have hL3 := hL2
                  clear hL2
                  rw [up_comp (fun x : Int => Value.int .i64 x)] at hH3
                  generalize up hv me on = hv at *
                  generalize up own me on = own at *
                  obtain ⟨RB, RC, rfl, hRC, -⟩ := hR.form
                  have hinC : ∀ W, Ext wf W → Calls Try.prog 23 #[.slice RB R.length RC, .int .i64 on] W fun e w' => e = .returned (.bool false) ∧ Ext W w' := fun W hx => by
                    have h := rin_any R RB R.length RC on W rfl (by omega) (hRC.ext hx)
                    rw [decide_eq_false ho3] at h
                    exact h
                  have hX : ∀ wx, Ext wf wx → wx.cell? ⟨gB, 2, none⟩ = some (.int .i64 on) ∧ wx.cell? ⟨gS + 1, 1, none⟩ = some (.int .i64 (hv 1)) ∧ wx.cell? ⟨gS + 1, 2, none⟩ = some (.int .i64 (hv 2)) := fun wx hx =>
                    ⟨hx.cell (by simp [World.cell?, hOu]), hx.cell (hH3.at (i := 1) (by omega)).1, hx.cell (hH3.at (i := 2) (by omega)).1⟩
                  clear hRC ho3
                  have hl0 : ¬ on < 0 := by omega
                  have hlN : ¬ (N : Int) < on := by omega
                  clear ho1 ho2
                  by_cases hop : 0 < on
                  case' pos => have heq : (hv 1 == hv 2) = false := beq_eq_false_iff_ne.2 (ho4 hop)
                  all_goals
                    clear ho4
                    refine' wp_region_sure_all ⟨((some 139, [], none) :: (some 140, [0], none) :: (some 141, [1], none) :: (some 142, [2], none) :: (some 143, [3], some (3, false)) :: (some 144, [4, 3], some (3, false)) :: (some 145, [3], some (3, false)) :: (some 146, [5, 6, 3], some (3, false)) :: (some 147, [3, 7], none) :: (some 148, [8, 3], none) :: (some 149, [9], some (9, false)) :: (some 150, [9], some (9, false)) :: (some 151, [11, 9], some (9, false)) :: (some 152, [10, 12, 9, 9], some (9, false)) :: (some 153, [9, 13], none) :: (some 154, [14, 13], none) :: (some 155, [15], some (15, false)) :: (some 156, [16, 15], some (15, false)) :: (some 157, [17, 15], some (15, false)) :: (some 158, [18, 15, 15], some (15, false)) :: (some 159, [19], some (19, true)) :: (some 160, [20, 19], some (19, true)) :: (some 161, [21, 19], some (19, true)) :: (some 162, [19], some (19, true)) :: (some 163, [23, 19], some (19, true)) :: (some 164, [24, 19], some (19, true)) :: (some 165, [22, 25, 19], some (19, true)) :: (some 166, [19, 26, 15], some (15, false)) :: (some 167, [15, 27], none) :: []), (0 :: 1 :: 3 :: 7 :: 15 :: 31 :: 15 :: 127 :: 255 :: 511 :: 1023 :: 1023 :: 3071 :: 8191 :: 16383 :: 32767 :: 65535 :: 131071 :: 262143 :: 524287 :: 1048575 :: 2097151 :: 4194303 :: 1048575 :: 9437183 :: 26214399 :: 67108863 :: 134217727 :: 268435455 :: []), (true :: true :: true :: true :: true :: true :: true :: true :: true :: true :: true :: true :: true :: true :: true :: true :: true :: true :: true :: true :: true :: true :: true :: true :: true :: true :: true :: true :: true :: []), [], 0⟩ 29 220 ((0, 139) :: (1, 140) :: (2, 141) :: (3, 142) :: (4, 143) :: (5, 144) :: (6, 145) :: (7, 146) :: (8, 147) :: (9, 148) :: (10, 149) :: (11, 150) :: (12, 151) :: (13, 152) :: (14, 153) :: (15, 154) :: (16, 155) :: (17, 156) :: (18, 157) :: (19, 158) :: (20, 159) :: (21, 160) :: (22, 161) :: (23, 162) :: (24, 163) :: (25, 164) :: (26, 165) :: (27, 166) :: (28, 167) :: []) ((0, 139) :: (1, 140) :: (2, 141) :: (3, 142) :: (4, 143) :: (5, 144) :: (6, 145) :: (7, 146) :: (8, 147) :: (9, 148) :: (10, 149) :: (11, 150) :: (12, 151) :: (13, 152) :: (14, 153) :: (15, 154) :: (16, 155) :: (17, 156) :: (18, 157) :: (19, 158) :: (20, 159) :: (21, 160) :: (22, 161) :: (23, 162) :: (24, 163) :: (25, 164) :: (26, 165) :: (27, 166) :: (28, 167) :: []) (.det _ :: .det _ :: .det _ :: .det _ :: .det _ :: .det _ :: .det _ :: .det _ :: .det _ :: .det _ :: .det _ :: .det _ :: .det _ :: .det _ :: .det _ :: .det _ :: .det _ :: .det _ :: .det _ :: .det _ :: .det _ :: .det _ :: .det _ :: .det _ :: .det _ :: .det _ :: .det _ :: .det _ :: .det _ :: []) (by kernel_rfl) (by kernel_rfl) (by kernel_rfl) rfl (by kernel_rfl) (by kernel_rfl) rfl (by kernel_rfl) ?hone ?hend
                    case hone =>
                      intro CS frS VS hCS ha hV
                      have qs8 := slot_val (t := 8) ha rfl
                      simp only [List.getElem_toArray, List.getElem_cons_succ, List.getElem_cons_zero] at qs8
                      have qs17 := slot_val (t := 17) ha rfl
                      simp only [List.getElem_toArray, List.getElem_cons_succ, List.getElem_cons_zero] at qs17
                      have qs19 := slot_val (t := 19) ha rfl
                      simp only [List.getElem_toArray, List.getElem_cons_succ, List.getElem_cons_zero] at qs19
                      have qs26 := slot_val (t := 26) ha rfl
                      simp only [List.getElem_toArray, List.getElem_cons_succ, List.getElem_cons_zero] at qs26
                      have HCS := Lib.hid hCS
                      have HVS := Lib.hid hV
                      clear ha hCS hV
                      -- 0: slot 139 := Op.fieldAddr 37 t26 2
                      refine sure_det (js := []) (ts := [26]) (gd := none) (place_at HVS.out (k := 0) rfl) (by rw [HCS.out]; kernel_rfl) ?_ ?_
                      · intro wx hx ρ hρ hs hf
                        have hρc := hρ.const
                        have hρf := hρ.func
                        obtain ⟨fx26, -⟩ := hf
                        rw [qs26] at fx26
                        clear hs
                        clear HCS HVS qs8 qs17 qs19 qs26
                        refine run_plain ?_
                        unfold runs
                        go_simp
                        exact detK.mk
                      -- 1: slot 140 := Op.load 3 t139
                      refine sure_det (js := [(0, 139)]) (ts := []) (gd := none) (place_at HVS.out (k := 1) rfl) (by rw [HCS.out]; kernel_rfl) ?_ ?_
                      · intro wx hx ρ hρ hs hf
                        have hρc := hρ.const
                        have hρf := hρ.func
                        obtain ⟨sn0, -⟩ := hs
                        rw [place_at HVS.out (k := 0) rfl] at sn0
                        replace sn0 : ρ (.tmp 139) = _ := sn0
                        clear hf
                        clear HCS HVS qs8 qs17 qs19 qs26
                        refine run_plain ?_
                        obtain ⟨p0, p1, p2⟩ := hX wx hx.drawn
                        unfold runs
                        go_simp
                        exact detK.mk
                      -- 2: slot 141 := Op.binOp BinOp.lss 3 t140 ((i64 0)) 3
                      refine sure_det (js := [(1, 140)]) (ts := []) (gd := none) (place_at HVS.out (k := 2) rfl) (by rw [HCS.out]; kernel_rfl) ?_ ?_
                      · intro wx hx ρ hρ hs hf
                        have hρc := hρ.const
                        have hρf := hρ.func
                        obtain ⟨sn1, -⟩ := hs
                        rw [place_at HVS.out (k := 1) rfl] at sn1
                        replace sn1 : ρ (.tmp 140) = _ := sn1
                        clear hf
                        clear HCS HVS qs8 qs17 qs19 qs26
                        refine run_plain ?_
                        unfold runs
                        go_simp
                        exact detK.mk
                      -- 3: slot 142 := Op.move t141
                      refine sure_det (js := [(2, 141)]) (ts := []) (gd := none) (place_at HVS.out (k := 3) rfl) (by rw [HCS.out]; kernel_rfl) ?_ ?_
                      · intro wx hx ρ hρ hs hf
                        have hρc := hρ.const
                        have hρf := hρ.func
                        obtain ⟨sn2, -⟩ := hs
                        rw [place_at HVS.out (k := 2) rfl] at sn2
                        replace sn2 : ρ (.tmp 141) = _ := sn2
                        clear hf
                        clear HCS HVS qs8 qs17 qs19 qs26
                        refine run_plain ?_
                        refine op_move rfl sn2 ?_
                        exact detK.mk
                      -- 4: slot 143 := Op.fieldAddr 37 t26 2
                      refine sure_det (js := [(3, 142)]) (ts := [26]) (gd := (some (142, false))) (place_at HVS.out (k := 4) rfl) (by rw [HCS.out]; kernel_rfl) ?_ ?_
                      · intro wx hx ρ hρ hs hf
                        have hρc := hρ.const
                        have hρf := hρ.func
                        obtain ⟨sn3, -⟩ := hs
                        obtain ⟨fx26, -⟩ := hf
                        rw [qs26] at fx26
                        rw [place_at HVS.out (k := 3) rfl] at sn3
                        replace sn3 : ρ (.tmp 142) = _ := sn3
                        clear HCS HVS qs8 qs17 qs19 qs26
                        first
                          | (refine run_passed sn3 ?_
                             exact detK.mk)
                          | (refine run_guarded sn3 ?_
                             unfold runs
                             go_simp
                             exact detK.mk)
                      -- 5: slot 144 := Op.load 3 t143
                      refine sure_det (js := [(4, 143), (3, 142)]) (ts := []) (gd := (some (142, false))) (place_at HVS.out (k := 5) rfl) (by rw [HCS.out]; kernel_rfl) ?_ ?_
                      · intro wx hx ρ hρ hs hf
                        have hρc := hρ.const
                        have hρf := hρ.func
                        obtain ⟨sn4, sn3, -⟩ := hs
                        rw [place_at HVS.out (k := 4) rfl] at sn4
                        replace sn4 : ρ (.tmp 143) = _ := sn4
                        rw [place_at HVS.out (k := 3) rfl] at sn3
                        replace sn3 : ρ (.tmp 142) = _ := sn3
                        clear hf
                        clear HCS HVS qs8 qs17 qs19 qs26
                        first
                          | (refine run_passed sn3 ?_
                             exact detK.mk)
                          | (refine run_guarded sn3 ?_
                             obtain ⟨p0, p1, p2⟩ := hX wx hx.drawn
                             unfold runs
                             go_simp
                             exact detK.mk)
                      -- 6: slot 145 := Op.move t8
                      refine sure_det (js := [(3, 142)]) (ts := [8]) (gd := (some (142, false))) (place_at HVS.out (k := 6) rfl) (by rw [HCS.out]; kernel_rfl) ?_ ?_
                      · intro wx hx ρ hρ hs hf
                        have hρc := hρ.const
                        have hρf := hρ.func
                        obtain ⟨sn3, -⟩ := hs
                        obtain ⟨fx8, -⟩ := hf
                        rw [qs8] at fx8
                        rw [place_at HVS.out (k := 3) rfl] at sn3
                        replace sn3 : ρ (.tmp 142) = _ := sn3
                        clear HCS HVS qs8 qs17 qs19 qs26
                        first
                          | (refine run_passed sn3 ?_
                             exact detK.mk)
                          | (refine run_guarded sn3 ?_
                             refine op_move rfl fx8 ?_
                             exact detK.mk)
                      -- 7: slot 146 := Op.binOp BinOp.gtr 3 t144 t145 3
                      refine sure_det (js := [(5, 144), (6, 145), (3, 142)]) (ts := []) (gd := (some (142, false))) (place_at HVS.out (k := 7) rfl) (by rw [HCS.out]; kernel_rfl) ?_ ?_
                      · intro wx hx ρ hρ hs hf
                        have hρc := hρ.const
                        have hρf := hρ.func
                        obtain ⟨sn5, sn6, sn3, -⟩ := hs
                        rw [place_at HVS.out (k := 5) rfl] at sn5
                        replace sn5 : ρ (.tmp 144) = _ := sn5
                        rw [place_at HVS.out (k := 6) rfl] at sn6
                        replace sn6 : ρ (.tmp 145) = _ := sn6
                        rw [place_at HVS.out (k := 3) rfl] at sn3
                        replace sn3 : ρ (.tmp 142) = _ := sn3
                        clear hf
                        clear HCS HVS qs8 qs17 qs19 qs26
                        first
                          | (refine run_passed sn3 ?_
                             exact detK.mk)
                          | (refine run_guarded sn3 ?_
                             unfold runs
                             go_simp
                             exact detK.mk)
                      -- 8: slot 147 := Op.pick t142 ((Value.bool true)) t146
                      refine sure_det (js := [(3, 142), (7, 146)]) (ts := []) (gd := none) (place_at HVS.out (k := 8) rfl) (by rw [HCS.out]; kernel_rfl) ?_ ?_
                      · intro wx hx ρ hρ hs hf
                        have hρc := hρ.const
                        have hρf := hρ.func
                        obtain ⟨sn3, sn7, -⟩ := hs
                        rw [place_at HVS.out (k := 3) rfl] at sn3
                        replace sn3 : ρ (.tmp 142) = _ := sn3
                        rw [place_at HVS.out (k := 7) rfl] at sn7
                        replace sn7 : ρ (.tmp 146) = _ := sn7
                        clear hf
                        clear HCS HVS qs8 qs17 qs19 qs26
                        refine run_plain ?_
                        first | refine op_pick_t rfl sn3 (hρ.const _) ?_ | refine op_pick_f rfl sn3 sn7 ?_
                        exact detK.mk
                      -- 9: slot 148 := Op.move t147
                      refine sure_det (js := [(8, 147)]) (ts := []) (gd := none) (place_at HVS.out (k := 9) rfl) (by rw [HCS.out]; kernel_rfl) ?_ ?_
                      · intro wx hx ρ hρ hs hf
                        have hρc := hρ.const
                        have hρf := hρ.func
                        obtain ⟨sn8, -⟩ := hs
                        rw [place_at HVS.out (k := 8) rfl] at sn8
                        replace sn8 : ρ (.tmp 147) = _ := sn8
                        clear hf
                        clear HCS HVS qs8 qs17 qs19 qs26
                        refine run_plain ?_
                        refine op_move rfl sn8 ?_
                        exact detK.mk
                      -- 10: slot 149 := Op.move t17
                      refine sure_det (js := [(9, 148)]) (ts := [17]) (gd := (some (148, false))) (place_at HVS.out (k := 10) rfl) (by rw [HCS.out]; kernel_rfl) ?_ ?_
                      · intro wx hx ρ hρ hs hf
                        have hρc := hρ.const
                        have hρf := hρ.func
                        obtain ⟨sn9, -⟩ := hs
                        obtain ⟨fx17, -⟩ := hf
                        rw [qs17] at fx17
                        rw [place_at HVS.out (k := 9) rfl] at sn9
                        replace sn9 : ρ (.tmp 148) = _ := sn9
                        clear HCS HVS qs8 qs17 qs19 qs26
                        first
                          | (refine run_passed sn9 ?_
                             exact detK.mk)
                          | (refine run_guarded sn9 ?_
                             refine op_move rfl fx17 ?_
                             exact detK.mk)
                      -- 11: slot 150 := Op.fieldAddr 37 t26 2
                      refine sure_det (js := [(9, 148)]) (ts := [26]) (gd := (some (148, false))) (place_at HVS.out (k := 11) rfl) (by rw [HCS.out]; kernel_rfl) ?_ ?_
                      · intro wx hx ρ hρ hs hf
                        have hρc := hρ.const
                        have hρf := hρ.func
                        obtain ⟨sn9, -⟩ := hs
                        obtain ⟨fx26, -⟩ := hf
                        rw [qs26] at fx26
                        rw [place_at HVS.out (k := 9) rfl] at sn9
                        replace sn9 : ρ (.tmp 148) = _ := sn9
                        clear HCS HVS qs8 qs17 qs19 qs26
                        first
                          | (refine run_passed sn9 ?_
                             exact detK.mk)
                          | (refine run_guarded sn9 ?_
                             unfold runs
                             go_simp
                             exact detK.mk)
                      -- 12: slot 151 := Op.load 3 t150
                      refine sure_det (js := [(11, 150), (9, 148)]) (ts := []) (gd := (some (148, false))) (place_at HVS.out (k := 12) rfl) (by rw [HCS.out]; kernel_rfl) ?_ ?_
                      · intro wx hx ρ hρ hs hf
                        have hρc := hρ.const
                        have hρf := hρ.func
                        obtain ⟨sn11, sn9, -⟩ := hs
                        rw [place_at HVS.out (k := 11) rfl] at sn11
                        replace sn11 : ρ (.tmp 150) = _ := sn11
                        rw [place_at HVS.out (k := 9) rfl] at sn9
                        replace sn9 : ρ (.tmp 148) = _ := sn9
                        clear hf
                        clear HCS HVS qs8 qs17 qs19 qs26
                        first
                          | (refine run_passed sn9 ?_
                             exact detK.mk)
                          | (refine run_guarded sn9 ?_
                             obtain ⟨p0, p1, p2⟩ := hX wx hx.drawn
                             unfold runs
                             go_simp
                             exact detK.mk)
                      -- 13: slot 152 := Op.call { call ( 23), args := #[t149, t151], argTypes := #[35, 3] }
                      refine sure_det (js := [(10, 149), (12, 151), (9, 148)]) (ts := []) (gd := (some (148, false))) (place_at HVS.out (k := 13) rfl) (by rw [HCS.out]; kernel_rfl) ?_ ?_
                      · intro wx hx ρ hρ hs hf
                        have hρc := hρ.const
                        have hρf := hρ.func
                        obtain ⟨sn10, sn12, sn9, -⟩ := hs
                        rw [place_at HVS.out (k := 10) rfl] at sn10
                        replace sn10 : ρ (.tmp 149) = _ := sn10
                        rw [place_at HVS.out (k := 12) rfl] at sn12
                        replace sn12 : ρ (.tmp 151) = _ := sn12
                        rw [place_at HVS.out (k := 9) rfl] at sn9
                        replace sn9 : ρ (.tmp 148) = _ := sn9
                        clear hf
                        clear HCS HVS qs8 qs17 qs19 qs26
                        first
                          | (refine run_passed sn9 ?_
                             exact detK.mk)
                          | (refine run_guarded sn9 ?_
                             refine op_call rfl hρ Try.call23 (map_two sn10 sn12) ?_
                             refine Calls.mono (hinC _ hx.drawn) ?_; rintro e w' ⟨rfl, hx5⟩; refine ⟨_, rfl, ?_⟩; exact detK.ext hx5)
                      -- 14: slot 153 := Op.pick t148 ((Value.bool true)) t152
                      refine sure_det (js := [(9, 148), (13, 152)]) (ts := []) (gd := none) (place_at HVS.out (k := 14) rfl) (by rw [HCS.out]; kernel_rfl) ?_ ?_
                      · intro wx hx ρ hρ hs hf
                        have hρc := hρ.const
                        have hρf := hρ.func
                        obtain ⟨sn9, sn13, -⟩ := hs
                        rw [place_at HVS.out (k := 9) rfl] at sn9
                        replace sn9 : ρ (.tmp 148) = _ := sn9
                        rw [place_at HVS.out (k := 13) rfl] at sn13
                        replace sn13 : ρ (.tmp 152) = _ := sn13
                        clear hf
                        clear HCS HVS qs8 qs17 qs19 qs26
                        refine run_plain ?_
                        first | refine op_pick_t rfl sn9 (hρ.const _) ?_ | refine op_pick_f rfl sn9 sn13 ?_
                        exact detK.mk
                      -- 15: slot 154 := Op.move t153
                      refine sure_det (js := [(14, 153)]) (ts := []) (gd := none) (place_at HVS.out (k := 15) rfl) (by rw [HCS.out]; kernel_rfl) ?_ ?_
                      · intro wx hx ρ hρ hs hf
                        have hρc := hρ.const
                        have hρf := hρ.func
                        obtain ⟨sn14, -⟩ := hs
                        rw [place_at HVS.out (k := 14) rfl] at sn14
                        replace sn14 : ρ (.tmp 153) = _ := sn14
                        clear hf
                        clear HCS HVS qs8 qs17 qs19 qs26
                        refine run_plain ?_
                        refine op_move rfl sn14 ?_
                        exact detK.mk
                      -- 16: slot 155 := Op.fieldAddr 37 t26 2
                      refine sure_det (js := [(15, 154)]) (ts := [26]) (gd := (some (154, false))) (place_at HVS.out (k := 16) rfl) (by rw [HCS.out]; kernel_rfl) ?_ ?_
                      · intro wx hx ρ hρ hs hf
                        have hρc := hρ.const
                        have hρf := hρ.func
                        obtain ⟨sn15, -⟩ := hs
                        obtain ⟨fx26, -⟩ := hf
                        rw [qs26] at fx26
                        rw [place_at HVS.out (k := 15) rfl] at sn15
                        replace sn15 : ρ (.tmp 154) = _ := sn15
                        clear HCS HVS qs8 qs17 qs19 qs26
                        first
                          | (refine run_passed sn15 ?_
                             exact detK.mk)
                          | (refine run_guarded sn15 ?_
                             unfold runs
                             go_simp
                             exact detK.mk)
                      -- 17: slot 156 := Op.load 3 t155
                      refine sure_det (js := [(16, 155), (15, 154)]) (ts := []) (gd := (some (154, false))) (place_at HVS.out (k := 17) rfl) (by rw [HCS.out]; kernel_rfl) ?_ ?_
                      · intro wx hx ρ hρ hs hf
                        have hρc := hρ.const
                        have hρf := hρ.func
                        obtain ⟨sn16, sn15, -⟩ := hs
                        rw [place_at HVS.out (k := 16) rfl] at sn16
                        replace sn16 : ρ (.tmp 155) = _ := sn16
                        rw [place_at HVS.out (k := 15) rfl] at sn15
                        replace sn15 : ρ (.tmp 154) = _ := sn15
                        clear hf
                        clear HCS HVS qs8 qs17 qs19 qs26
                        first
                          | (refine run_passed sn15 ?_
                             exact detK.mk)
                          | (refine run_guarded sn15 ?_
                             obtain ⟨p0, p1, p2⟩ := hX wx hx.drawn
                             unfold runs
                             go_simp
                             exact detK.mk)
                      -- 18: slot 157 := Op.binOp BinOp.gtr 3 t156 ((i64 0)) 3
                      refine sure_det (js := [(17, 156), (15, 154)]) (ts := []) (gd := (some (154, false))) (place_at HVS.out (k := 18) rfl) (by rw [HCS.out]; kernel_rfl) ?_ ?_
                      · intro wx hx ρ hρ hs hf
                        have hρc := hρ.const
                        have hρf := hρ.func
                        obtain ⟨sn17, sn15, -⟩ := hs
                        rw [place_at HVS.out (k := 17) rfl] at sn17
                        replace sn17 : ρ (.tmp 156) = _ := sn17
                        rw [place_at HVS.out (k := 15) rfl] at sn15
                        replace sn15 : ρ (.tmp 154) = _ := sn15
                        clear hf
                        clear HCS HVS qs8 qs17 qs19 qs26
                        first
                          | (refine run_passed sn15 ?_
                             exact detK.mk)
                          | (refine run_guarded sn15 ?_
                             unfold runs
                             go_simp
                             exact detK.mk)
                      -- 19: slot 158 := Op.move t157
                      refine sure_det (js := [(18, 157), (15, 154)]) (ts := []) (gd := (some (154, false))) (place_at HVS.out (k := 19) rfl) (by rw [HCS.out]; kernel_rfl) ?_ ?_
                      · intro wx hx ρ hρ hs hf
                        have hρc := hρ.const
                        have hρf := hρ.func
                        obtain ⟨sn18, sn15, -⟩ := hs
                        rw [place_at HVS.out (k := 18) rfl] at sn18
                        replace sn18 : ρ (.tmp 157) = _ := sn18
                        rw [place_at HVS.out (k := 15) rfl] at sn15
                        replace sn15 : ρ (.tmp 154) = _ := sn15
                        clear hf
                        clear HCS HVS qs8 qs17 qs19 qs26
                        first
                          | (refine run_passed sn15 ?_
                             exact detK.mk)
                          | (refine run_guarded sn15 ?_
                             refine op_move rfl sn18 ?_
                             exact detK.mk)
                      -- 20: slot 159 := Op.move t19
                      refine sure_det (js := [(19, 158)]) (ts := [19]) (gd := (some (158, true))) (place_at HVS.out (k := 20) rfl) (by rw [HCS.out]; kernel_rfl) ?_ ?_
                      · intro wx hx ρ hρ hs hf
                        have hρc := hρ.const
                        have hρf := hρ.func
                        obtain ⟨sn19, -⟩ := hs
                        obtain ⟨fx19, -⟩ := hf
                        rw [qs19] at fx19
                        rw [place_at HVS.out (k := 19) rfl] at sn19
                        replace sn19 : ρ (.tmp 158) = _ := sn19
                        clear HCS HVS qs8 qs17 qs19 qs26
                        first
                          | (refine run_passed sn19 ?_
                             exact detK.mk)
                          | (refine run_guarded sn19 ?_
                             refine op_move rfl fx19 ?_
                             exact detK.mk)
                      -- 21: slot 160 := Op.indexAddr 35 t159 ((i64 1))
                      refine sure_det (js := [(20, 159), (19, 158)]) (ts := []) (gd := (some (158, true))) (place_at HVS.out (k := 21) rfl) (by rw [HCS.out]; kernel_rfl) ?_ ?_
                      · intro wx hx ρ hρ hs hf
                        have hρc := hρ.const
                        have hρf := hρ.func
                        obtain ⟨sn20, sn19, -⟩ := hs
                        rw [place_at HVS.out (k := 20) rfl] at sn20
                        replace sn20 : ρ (.tmp 159) = _ := sn20
                        rw [place_at HVS.out (k := 19) rfl] at sn19
                        replace sn19 : ρ (.tmp 158) = _ := sn19
                        clear hf
                        clear HCS HVS qs8 qs17 qs19 qs26
                        first
                          | (refine run_passed sn19 ?_
                             exact detK.mk)
                          | (refine run_guarded sn19 ?_
                             unfold runs
                             go_simp
                             exact detK.mk)
                      -- 22: slot 161 := Op.load 3 t160
                      refine sure_det (js := [(21, 160), (19, 158)]) (ts := []) (gd := (some (158, true))) (place_at HVS.out (k := 22) rfl) (by rw [HCS.out]; kernel_rfl) ?_ ?_
                      · intro wx hx ρ hρ hs hf
                        have hρc := hρ.const
                        have hρf := hρ.func
                        obtain ⟨sn21, sn19, -⟩ := hs
                        rw [place_at HVS.out (k := 21) rfl] at sn21
                        replace sn21 : ρ (.tmp 160) = _ := sn21
                        rw [place_at HVS.out (k := 19) rfl] at sn19
                        replace sn19 : ρ (.tmp 158) = _ := sn19
                        clear hf
                        clear HCS HVS qs8 qs17 qs19 qs26
                        first
                          | (refine run_passed sn19 ?_
                             exact detK.mk)
                          | (refine run_guarded sn19 ?_
                             obtain ⟨p0, p1, p2⟩ := hX wx hx.drawn
                             unfold runs
                             go_simp
                             exact detK.mk)
                      -- 23: slot 162 := Op.move t19
                      refine sure_det (js := [(19, 158)]) (ts := [19]) (gd := (some (158, true))) (place_at HVS.out (k := 23) rfl) (by rw [HCS.out]; kernel_rfl) ?_ ?_
                      · intro wx hx ρ hρ hs hf
                        have hρc := hρ.const
                        have hρf := hρ.func
                        obtain ⟨sn19, -⟩ := hs
                        obtain ⟨fx19, -⟩ := hf
                        rw [qs19] at fx19
                        rw [place_at HVS.out (k := 19) rfl] at sn19
                        replace sn19 : ρ (.tmp 158) = _ := sn19
                        clear HCS HVS qs8 qs17 qs19 qs26
                        first
                          | (refine run_passed sn19 ?_
                             exact detK.mk)
                          | (refine run_guarded sn19 ?_
                             refine op_move rfl fx19 ?_
                             exact detK.mk)
                      -- 24: slot 163 := Op.indexAddr 35 t162 ((i64 2))
                      refine sure_det (js := [(23, 162), (19, 158)]) (ts := []) (gd := (some (158, true))) (place_at HVS.out (k := 24) rfl) (by rw [HCS.out]; kernel_rfl) ?_ ?_
                      · intro wx hx ρ hρ hs hf
                        have hρc := hρ.const
                        have hρf := hρ.func
                        obtain ⟨sn23, sn19, -⟩ := hs
                        rw [place_at HVS.out (k := 23) rfl] at sn23
                        replace sn23 : ρ (.tmp 162) = _ := sn23
                        rw [place_at HVS.out (k := 19) rfl] at sn19
                        replace sn19 : ρ (.tmp 158) = _ := sn19
                        clear hf
                        clear HCS HVS qs8 qs17 qs19 qs26
                        first
                          | (refine run_passed sn19 ?_
                             exact detK.mk)
                          | (refine run_guarded sn19 ?_
                             unfold runs
                             go_simp
                             exact detK.mk)
                      -- 25: slot 164 := Op.load 3 t163
                      refine sure_det (js := [(24, 163), (19, 158)]) (ts := []) (gd := (some (158, true))) (place_at HVS.out (k := 25) rfl) (by rw [HCS.out]; kernel_rfl) ?_ ?_
                      · intro wx hx ρ hρ hs hf
                        have hρc := hρ.const
                        have hρf := hρ.func
                        obtain ⟨sn24, sn19, -⟩ := hs
                        rw [place_at HVS.out (k := 24) rfl] at sn24
                        replace sn24 : ρ (.tmp 163) = _ := sn24
                        rw [place_at HVS.out (k := 19) rfl] at sn19
                        replace sn19 : ρ (.tmp 158) = _ := sn19
                        clear hf
                        clear HCS HVS qs8 qs17 qs19 qs26
                        first
                          | (refine run_passed sn19 ?_
                             exact detK.mk)
                          | (refine run_guarded sn19 ?_
                             obtain ⟨p0, p1, p2⟩ := hX wx hx.drawn
                             unfold runs
                             go_simp
                             exact detK.mk)
                      -- 26: slot 165 := Op.binOp BinOp.eql 3 t161 t164 3
                      refine sure_det (js := [(22, 161), (25, 164), (19, 158)]) (ts := []) (gd := (some (158, true))) (place_at HVS.out (k := 26) rfl) (by rw [HCS.out]; kernel_rfl) ?_ ?_
                      · intro wx hx ρ hρ hs hf
                        have hρc := hρ.const
                        have hρf := hρ.func
                        obtain ⟨sn22, sn25, sn19, -⟩ := hs
                        rw [place_at HVS.out (k := 22) rfl] at sn22
                        replace sn22 : ρ (.tmp 161) = _ := sn22
                        rw [place_at HVS.out (k := 25) rfl] at sn25
                        replace sn25 : ρ (.tmp 164) = _ := sn25
                        rw [place_at HVS.out (k := 19) rfl] at sn19
                        replace sn19 : ρ (.tmp 158) = _ := sn19
                        clear hf
                        clear HCS HVS qs8 qs17 qs19 qs26
                        first
                          | (refine run_passed sn19 ?_
                             exact detK.mk)
                          | (refine run_guarded sn19 ?_
                             unfold runs
                             go_simp
                             exact detK.mk)
                      -- 27: slot 166 := Op.pick t158 t165 ((Value.bool false))
                      refine sure_det (js := [(19, 158), (26, 165), (15, 154)]) (ts := []) (gd := (some (154, false))) (place_at HVS.out (k := 27) rfl) (by rw [HCS.out]; kernel_rfl) ?_ ?_
                      · intro wx hx ρ hρ hs hf
                        have hρc := hρ.const
                        have hρf := hρ.func
                        obtain ⟨sn19, sn26, sn15, -⟩ := hs
                        rw [place_at HVS.out (k := 19) rfl] at sn19
                        replace sn19 : ρ (.tmp 158) = _ := sn19
                        rw [place_at HVS.out (k := 26) rfl] at sn26
                        replace sn26 : ρ (.tmp 165) = _ := sn26
                        rw [place_at HVS.out (k := 15) rfl] at sn15
                        replace sn15 : ρ (.tmp 154) = _ := sn15
                        clear hf
                        clear HCS HVS qs8 qs17 qs19 qs26
                        first
                          | (refine run_passed sn15 ?_
                             exact detK.mk)
                          | (refine run_guarded sn15 ?_
                             first | refine op_pick_t rfl sn19 sn26 ?_ | refine op_pick_f rfl sn19 (hρ.const _) ?_
                             exact detK.mk)
                      -- 28: slot 167 := Op.pick t154 ((Value.bool true)) t166
                      refine sure_det (js := [(15, 154), (27, 166)]) (ts := []) (gd := none) (place_at HVS.out (k := 28) rfl) (by rw [HCS.out]; kernel_rfl) ?_ ?_
                      · intro wx hx ρ hρ hs hf
                        have hρc := hρ.const
                        have hρf := hρ.func
                        obtain ⟨sn15, sn27, -⟩ := hs
                        rw [place_at HVS.out (k := 15) rfl] at sn15
                        replace sn15 : ρ (.tmp 154) = _ := sn15
                        rw [place_at HVS.out (k := 27) rfl] at sn27
                        replace sn27 : ρ (.tmp 166) = _ := sn27
                        clear hf
                        clear HCS HVS qs8 qs17 qs19 qs26
                        refine run_plain ?_
                        first | refine op_pick_t rfl sn15 (hρ.const _) ?_ | refine op_pick_f rfl sn15 sn27 ?_
                        exact detK.mk
                      exact trivial
                    case hend =>
                      intro xs wx hx hg
                      have gk0 : xs 0 = _ := goods_get hg (i := 0) (j := 0) (d := 139) rfl
                      have gk1 : xs 1 = _ := goods_get hg (i := 1) (j := 1) (d := 140) rfl
                      have gk2 : xs 2 = _ := goods_get hg (i := 2) (j := 2) (d := 141) rfl
                      have gk3 : xs 3 = _ := goods_get hg (i := 3) (j := 3) (d := 142) rfl
                      have gk4 : xs 4 = _ := goods_get hg (i := 4) (j := 4) (d := 143) rfl
                      have gk5 : xs 5 = _ := goods_get hg (i := 5) (j := 5) (d := 144) rfl
                      have gk6 : xs 6 = _ := goods_get hg (i := 6) (j := 6) (d := 145) rfl
                      have gk7 : xs 7 = _ := goods_get hg (i := 7) (j := 7) (d := 146) rfl
                      have gk8 : xs 8 = _ := goods_get hg (i := 8) (j := 8) (d := 147) rfl
                      have gk9 : xs 9 = _ := goods_get hg (i := 9) (j := 9) (d := 148) rfl
                      have gk10 : xs 10 = _ := goods_get hg (i := 10) (j := 10) (d := 149) rfl
                      have gk11 : xs 11 = _ := goods_get hg (i := 11) (j := 11) (d := 150) rfl
                      have gk12 : xs 12 = _ := goods_get hg (i := 12) (j := 12) (d := 151) rfl
                      have gk13 : xs 13 = _ := goods_get hg (i := 13) (j := 13) (d := 152) rfl
                      have gk14 : xs 14 = _ := goods_get hg (i := 14) (j := 14) (d := 153) rfl
                      have gk15 : xs 15 = _ := goods_get hg (i := 15) (j := 15) (d := 154) rfl
                      have gk16 : xs 16 = _ := goods_get hg (i := 16) (j := 16) (d := 155) rfl
                      have gk17 : xs 17 = _ := goods_get hg (i := 17) (j := 17) (d := 156) rfl
                      have gk18 : xs 18 = _ := goods_get hg (i := 18) (j := 18) (d := 157) rfl
                      have gk19 : xs 19 = _ := goods_get hg (i := 19) (j := 19) (d := 158) rfl
                      have gk20 : xs 20 = _ := goods_get hg (i := 20) (j := 20) (d := 159) rfl
                      have gk21 : xs 21 = _ := goods_get hg (i := 21) (j := 21) (d := 160) rfl
                      have gk22 : xs 22 = _ := goods_get hg (i := 22) (j := 22) (d := 161) rfl
                      have gk23 : xs 23 = _ := goods_get hg (i := 23) (j := 23) (d := 162) rfl
                      have gk24 : xs 24 = _ := goods_get hg (i := 24) (j := 24) (d := 163) rfl
                      have gk25 : xs 25 = _ := goods_get hg (i := 25) (j := 25) (d := 164) rfl
                      have gk26 : xs 26 = _ := goods_get hg (i := 26) (j := 26) (d := 165) rfl
                      have gk27 : xs 27 = _ := goods_get hg (i := 27) (j := 27) (d := 166) rfl
                      have gk28 : xs 28 = _ := goods_get hg (i := 28) (j := 28) (d := 167) rfl
                      clear hg
                      simp only [putAll, gk0, gk1, gk2, gk3, gk4, gk5, gk6, gk7, gk8, gk9, gk10, gk11, gk12, gk13, gk14, gk15, gk16, gk17, gk18, gk19, gk20, gk21, gk22, gk23, gk24, gk25, gk26, gk27, gk28]
                      clear gk0 gk1 gk2 gk3 gk4 gk5 gk6 gk7 gk8 gk9 gk10 gk11 gk12 gk13 gk14 gk15 gk16 gk17 gk18 gk19 gk20 gk21 gk22 gk23 gk24 gk25 gk26 gk27 gk28
                      clear xs
                      simp only [Act.put, List.setIfInBounds_toArray, List.set_cons_zero, List.set_cons_succ]
                      have hE2 : Ext wf wx := hx.drawn
                      go_upto_region 36 with (fail)
                      clear hX hinC hx hop hl0 hlN
                      generalize wx = wf at *
                      replace hO := heap_ext hO hE2
                      replace hbx := hbx.ext hE2
                      replace hS3 := hS3.ext hE2
                      replace hH3 := hH3.ext hE2
                      replace hL3 := hL3.ext hE2
                      replace hK4 := heap_ext hK4 hE2
                      replace hR := hR.ext hE2
                      replace hlog := fun a => (hlog a).ext hE2
                      replace hWr := hWr.trans hE2
                      replace hgr := Nat.le_trans hgr (Below.size hE2)
                      clear hE2 hOu
                      have o0 : wf.cell? ⟨gO, 0, none⟩ = some (.int .i64 (kindS (st me))) := by simp [World.cell?, hO]
                      go_upto_region 38 with (fail)
                      clear o0 hO
                      have hSm := (hS3.at (i := me) (by omega)).1
                      have hSf := (hS3.at (i := me) (by omega)).2
                      have hw1 : IntKind.i64.wrap (((st me : Nat) : Int) + 1) = ((st me : Nat) : Int) + 1 := by rw [IntKind.wrap_i64]; omega
                      have hw2 : Int.tmod (((st me : Nat) : Int) + 1) 4 = (((st me + 1) % 4 : Nat) : Int) := by rw [Int.tmod_eq_emod_of_nonneg (by omega)]; omega
                      have hw3 : IntKind.i64.wrap (((st me + 1) % 4 : Nat) : Int) = (((st me + 1) % 4 : Nat) : Int) := by rw [IntKind.wrap_i64]; omega
                      obtain ⟨s', hs'⟩ : ∃ s' : Nat, s' = (st me + 1) % 4 := ⟨_, rfl⟩
                      rw [← hs'] at hw2 hw3
                      have HSS := Lib.hid hs'
                      clear hs'
                      go_wp2
                      clear hSm hSf hw1 hw2 hw3
                      obtain ⟨ct_, hct_, hbt_⟩ : ∃ cs : List Value, wf.heap[gS]? = some (.cells cs.toArray 3 (0, 0)) ∧ boxish cs = true := ⟨_, hS3, rfl⟩
                      have hbut : But (gS) wf (wf.setCell ⟨gS, me, none⟩ (.int .i64 ((s' : Nat) : Int))) := fun k o hk ho => (setAll_other (g := gS) (k := k) hk [.int .i64 ((s' : Nat) : Int)] me wf).trans ho
                      have hsz_ : (wf.setCell ⟨gS, me, none⟩ (.int .i64 ((s' : Nat) : Int))).heap.size = wf.heap.size := by simp [World.setCell]
                      have hWr2 : Ext w (wf.setCell ⟨gS, me, none⟩ (.int .i64 ((s' : Nat) : Int))) := set_ext hWr (by omega)
                      have hS2 := hS3.set (i := me) (by omega) (.int .i64 ((s' : Nat) : Int))
                      have hH2 := hH3.keep (w' := (wf.setCell ⟨gS, me, none⟩ (.int .i64 ((s' : Nat) : Int)))) (fun o ho => hbut _ _ (by omega) ho)
                      have hL2 := hL3.keep (w' := (wf.setCell ⟨gS, me, none⟩ (.int .i64 ((s' : Nat) : Int)))) (fun o ho => hbut _ _ (by omega) ho)
                      have hK2 := hbut _ _ (by omega) hK4
                      have hbx2 := hbx.but3 hbut hct_ hbt_ (by omega) hkj.2.2
                      have hR2 := hR.kept (w' := (wf.setCell ⟨gS, me, none⟩ (.int .i64 ((s' : Nat) : Int)))) (fun g o hb _ ho => hbut _ _ (by omega) ho)
                      have hlog2 := fun a => (hlog a).kept (w' := (wf.setCell ⟨gS, me, none⟩ (.int .i64 ((s' : Nat) : Int)))) (fun g o hb ho => hbut _ _ (by omega) ho)
                      replace hgr : gs ≤ (wf.setCell ⟨gS, me, none⟩ (.int .i64 ((s' : Nat) : Int))).heap.size := by rw [hsz_]; exact hgr
                      clear hS3 hH3 hL3 hK4 hbx hR hlog hWr hct_ hbt_ hbut hsz_ ct_ 
                      generalize (wf.setCell ⟨gS, me, none⟩ (.int .i64 ((s' : Nat) : Int))) = wz at *
                      have hbx := hbx2
                      clear hbx2
                      have hR := hR2
                      clear hR2
                      have hlog := hlog2
                      clear hlog2
                      have hWr := hWr2
                      clear hWr2
                      have hK4 := hK2
                      clear hK2
                      have hS3 := hS2
                      clear hS2
                      have hH3 := hH2
                      clear hH2
                      have hL3 := hL2
                      clear hL2
                      rw [up_comp (fun x : Nat => Value.int .i64 (x : Int))] at hS3
                      go_roundw
                      case rel => exact ⟨i + 1, Xj, k, up st me s', hv, own, rs2, lg2, R, by go_num, by omega, hbx, hkj, (by rw [HSS.out]; exact hsf.le (by omega)), hS3, hH3, hL3, hK4, hR, hlog, hgood2, hne2, by omega, hWr, hgr⟩
                      case measure => simp [intOf]; omega
                try case' neg =>
                  by_cases hs2 : st me = 2
                  all_goals try (exfalso; have := HS2.out; omega)
                  try case' pos =>
                    have hk5 : (kindS (st me) == 5) = true := by rw [kind5 hst4]; exact decide_eq_true hs2
                    have hk6 : (kindS (st me) == 6) = false := by rw [kind6 hst4]; exact decide_eq_false (by omega)
                    have hHm := (hH3.at (i := me) (by omega)).1
                    have hHf := (hH3.at (i := me) (by omega)).2
                    have hsf : SafeP N j τ0 Xj k (up st me ((st me + 1) % 4)) (up hv me 0) (up own me 0) (fun a => (rs2 a).map Res.n) R i := by
                      rw [show (st me + 1) % 4 = 3 by omega]; exact hd2 hs2
                    clear hs2 hd1 hd2 hd3
                    go_upto_region 38 with (fail)
                    clear o0 o1 o2 o3 hO hOu hHm hHf
                    obtain ⟨ct_, hct_, hbt_⟩ : ∃ cs : List Value, wf.heap[gS + 1]? = some (.cells cs.toArray 3 (0, 0)) ∧ boxish cs = true := ⟨_, hH3, rfl⟩
                    have hbut : But (gS + 1) wf (wf.setCell ⟨gS + 1, me, none⟩ (.int .i64 0)) := fun k o hk ho => (setAll_other (g := gS + 1) (k := k) hk [.int .i64 0] me wf).trans ho
                    have hsz_ : (wf.setCell ⟨gS + 1, me, none⟩ (.int .i64 0)).heap.size = wf.heap.size := by simp [World.setCell]
                    have hWr2 : Ext w (wf.setCell ⟨gS + 1, me, none⟩ (.int .i64 0)) := set_ext hWr (by omega)
                    have hH2 := hH3.set (i := me) (by omega) (.int .i64 0)
                    have hS2 := hS3.keep (w' := (wf.setCell ⟨gS + 1, me, none⟩ (.int .i64 0))) (fun o ho => hbut _ _ (by omega) ho)
                    have hL2 := hL3.keep (w' := (wf.setCell ⟨gS + 1, me, none⟩ (.int .i64 0))) (fun o ho => hbut _ _ (by omega) ho)
                    have hK2 := hbut _ _ (by omega) hK4
                    have hbx2 := hbx.but3 hbut hct_ hbt_ (by omega) hkj.2.2
                    have hR2 := hR.kept (w' := (wf.setCell ⟨gS + 1, me, none⟩ (.int .i64 0))) (fun g o hb _ ho => hbut _ _ (by omega) ho)
                    have hlog2 := fun a => (hlog a).kept (w' := (wf.setCell ⟨gS + 1, me, none⟩ (.int .i64 0))) (fun g o hb ho => hbut _ _ (by omega) ho)
                    replace hgr : gs ≤ (wf.setCell ⟨gS + 1, me, none⟩ (.int .i64 0)).heap.size := by rw [hsz_]; exact hgr
                    clear hS3 hH3 hL3 hK4 hbx hR hlog hWr hct_ hbt_ hbut hsz_ ct_ 
                    generalize (wf.setCell ⟨gS + 1, me, none⟩ (.int .i64 0)) = wf at *
                    have hbx := hbx2
                    clear hbx2
                    have hR := hR2
                    clear hR2
                    have hlog := hlog2
                    clear hlog2
                    have hWr := hWr2
                    clear hWr2
                    have hK4 := hK2
                    clear hK2
                    have hS3 := hS2
                    clear hS2
                    have hH3 := hH2
                    clear hH2
                    have hL3 := hL2
                    clear hL2
                    rw [up_comp (fun x : Int => Value.int .i64 x)] at hH3
                    generalize up hv me 0 = hv at *
                    generalize up own me 0 = own at *
                  try case' neg =>
                    have hk5 : (kindS (st me) == 5) = false := by rw [kind5 hst4]; exact decide_eq_false hs2
                    have hk6 : (kindS (st me) == 6) = false := by rw [kind6 hst4]; exact decide_eq_false hs1
                    have hsf : SafeP N j τ0 Xj k (up st me ((st me + 1) % 4)) hv (up own me 0) (fun a => (rs2 a).map Res.n) R i := hd3 (by omega)
                    clear hs1 hs2 hd1 hd2 hd3
                    go_upto_region 38 with (fail)
                    clear o0 o1 o2 o3 hO hOu
                    generalize up own me 0 = own at *
                all_goals
                  have hSm := (hS3.at (i := me) (by omega)).1
                  have hSf := (hS3.at (i := me) (by omega)).2
                  have hw1 : IntKind.i64.wrap (((st me : Nat) : Int) + 1) = ((st me : Nat) : Int) + 1 := by rw [IntKind.wrap_i64]; omega
                  have hw2 : Int.tmod (((st me : Nat) : Int) + 1) 4 = (((st me + 1) % 4 : Nat) : Int) := by rw [Int.tmod_eq_emod_of_nonneg (by omega)]; omega
                  have hw3 : IntKind.i64.wrap (((st me + 1) % 4 : Nat) : Int) = (((st me + 1) % 4 : Nat) : Int) := by rw [IntKind.wrap_i64]; omega
                  obtain ⟨s', hs'⟩ : ∃ s' : Nat, s' = (st me + 1) % 4 := ⟨_, rfl⟩
                  rw [← hs'] at hw2 hw3
                  have HSS := Lib.hid hs'
                  clear hs'
                  go_wp2
                  clear hSm hSf hw1 hw2 hw3
                  obtain ⟨ct_, hct_, hbt_⟩ : ∃ cs : List Value, wf.heap[gS]? = some (.cells cs.toArray 3 (0, 0)) ∧ boxish cs = true := ⟨_, hS3, rfl⟩
                  have hbut : But (gS) wf (wf.setCell ⟨gS, me, none⟩ (.int .i64 ((s' : Nat) : Int))) := fun k o hk ho => (setAll_other (g := gS) (k := k) hk [.int .i64 ((s' : Nat) : Int)] me wf).trans ho
                  have hsz_ : (wf.setCell ⟨gS, me, none⟩ (.int .i64 ((s' : Nat) : Int))).heap.size = wf.heap.size := by simp [World.setCell]
                  have hWr2 : Ext w (wf.setCell ⟨gS, me, none⟩ (.int .i64 ((s' : Nat) : Int))) := set_ext hWr (by omega)
                  have hS2 := hS3.set (i := me) (by omega) (.int .i64 ((s' : Nat) : Int))
                  have hH2 := hH3.keep (w' := (wf.setCell ⟨gS, me, none⟩ (.int .i64 ((s' : Nat) : Int)))) (fun o ho => hbut _ _ (by omega) ho)
                  have hL2 := hL3.keep (w' := (wf.setCell ⟨gS, me, none⟩ (.int .i64 ((s' : Nat) : Int)))) (fun o ho => hbut _ _ (by omega) ho)
                  have hK2 := hbut _ _ (by omega) hK4
                  have hbx2 := hbx.but3 hbut hct_ hbt_ (by omega) hkj.2.2
                  have hR2 := hR.kept (w' := (wf.setCell ⟨gS, me, none⟩ (.int .i64 ((s' : Nat) : Int)))) (fun g o hb _ ho => hbut _ _ (by omega) ho)
                  have hlog2 := fun a => (hlog a).kept (w' := (wf.setCell ⟨gS, me, none⟩ (.int .i64 ((s' : Nat) : Int)))) (fun g o hb ho => hbut _ _ (by omega) ho)
                  replace hgr : gs ≤ (wf.setCell ⟨gS, me, none⟩ (.int .i64 ((s' : Nat) : Int))).heap.size := by rw [hsz_]; exact hgr
                  clear hS3 hH3 hL3 hK4 hbx hR hlog hWr hct_ hbt_ hbut hsz_ ct_ 
                  generalize (wf.setCell ⟨gS, me, none⟩ (.int .i64 ((s' : Nat) : Int))) = wz at *
                  have hbx := hbx2
                  clear hbx2
                  have hR := hR2
                  clear hR2
                  have hlog := hlog2
                  clear hlog2
                  have hWr := hWr2
                  clear hWr2
                  have hK4 := hK2
                  clear hK2
                  have hS3 := hS2
                  clear hS2
                  have hH3 := hH2
                  clear hH2
                  have hL3 := hL2
                  clear hL2
                  rw [up_comp (fun x : Nat => Value.int .i64 (x : Int))] at hS3
                  go_roundw
                  case rel => exact ⟨i + 1, Xj, k, up st me s', hv, own, rs2, lg2, R, by go_num, by omega, hbx, hkj, (by rw [HSS.out]; exact hsf.le (by omega)), hS3, hH3, hL3, hK4, hR, hlog, hgood2, hne2, by omega, hWr, hgr⟩
                  case measure => simp [intOf]; omega
            | stop ax =>
              obtain ⟨a, k', own', rfl, hok, hu, hst1, hst2⟩ := hsafe.stop hme1 hme2 hs (by simpa using hF) hE
              rw [hE] at hcon
              obtain ⟨xk, xc, xa, xb⟩ := a
              replace hcon : ∀ W, LogV W LB (rs me).length LC (rs me) → Calls Try.prog 17 #[.int .i64 3, .int .i64 (N : Int), .int .i64 (me : Int), .agg #[.int .i64 (kindS (st me)), .int .i64 (hv me), .int .i64 0, .int .u64 0], .slice LB (rs me).length LC] W fun e w' => e = .returned (.tuple #[.agg #[.int .i64 xk, .int .i64 xc, .int .u64 xa, .int .u64 xb, .slice none 0 0, .slice none 0 0], .agg #[.int .i64 0, .bool false, .int .i64 0, .int .u64 0, .slice none 0 0], .bool false]) ∧ Ext W w' := hcon
              clear hE
              have hX : ∀ wx, Ext wo wx → wx.cell? ⟨gO, 0, none⟩ = some (.int .i64 (kindS (st me))) ∧ wx.cell? ⟨gO, 1, none⟩ = some (.int .i64 (hv me)) ∧ wx.cell? ⟨gO, 2, none⟩ = some (.int .i64 0) ∧ wx.cell? ⟨gO, 3, none⟩ = some (.int .u64 0) ∧ wx.cell? ⟨gS + 1 + 1, me, none⟩ = some (.slice LB (rs me).length LC) := fun wx hx => ⟨hx.cell (by simp [World.cell?, hO]), hx.cell (by simp [World.cell?, hO]), hx.cell (by simp [World.cell?, hO]), hx.cell (by simp [World.cell?, hO]), hx.cell hLm⟩
              clear hLm
              refine' wp_region_lates [(10, [(8, 115)]), (11, [(8, 115)])] ⟨((some 116, [], none) :: (some 117, [], none) :: (some 118, [], none) :: (some 119, [], none) :: (some 120, [], none) :: (some 121, [3, 4], none) :: (some 122, [5], none) :: (some 123, [0, 1, 2, 6], none) :: (some 115, [7], none) :: (some 124, [8], none) :: (some 125, [8], none) :: (some 126, [8], none) :: (some 25, [], none) :: (some 26, [], none) :: (none, [12, 9, 7, 0, 1, 2, 3, 4, 5, 6, 7, 8, 9, 12, 13], none) :: (none, [13, 10, 14, 0, 1, 2, 3, 4, 5, 6, 7, 8, 9, 10, 12, 13, 14], none) :: (some 27, [11, 15, 0, 1, 2, 3, 4, 5, 6, 7, 8, 9, 10, 11, 12, 13, 14, 15], none) :: []), (0 :: 0 :: 0 :: 0 :: 0 :: 24 :: 56 :: 127 :: 255 :: 511 :: 511 :: 511 :: 0 :: 0 :: 13311 :: 30719 :: 65535 :: []), (true :: true :: true :: true :: true :: true :: true :: true :: true :: true :: true :: true :: true :: true :: []), [], 0⟩ 14 220 ((0, 116) :: (1, 117) :: (2, 118) :: (3, 119) :: (4, 120) :: (5, 121) :: (6, 122) :: (7, 123) :: (8, 115) :: (9, 124) :: (10, 125) :: (11, 126) :: (12, 25) :: (13, 26) :: []) ((0, 116) :: (1, 117) :: (2, 118) :: (3, 119) :: (4, 120) :: (5, 121) :: (6, 122) :: (7, 123) :: (8, 115) :: (9, 124) :: (10, 125) :: (11, 126) :: (12, 25) :: (13, 26) :: []) (.det _ :: .det _ :: .det _ :: .det _ :: .det _ :: .det _ :: .det _ :: (Good.own fun v => v = .tuple #[.agg #[.int .i64 xk, .int .i64 xc, .int .u64 xa, .int .u64 xb, .slice none 0 0, .slice none 0 0], .agg #[.int .i64 0, .bool false, .int .i64 0, .int .u64 0, .slice none 0 0], .bool false]) :: (Good.own fun v => v = .tuple #[.agg #[.int .i64 xk, .int .i64 xc, .int .u64 xa, .int .u64 xb, .slice none 0 0, .slice none 0 0], .agg #[.int .i64 0, .bool false, .int .i64 0, .int .u64 0, .slice none 0 0], .bool false]) :: (Good.own fun v => v = .agg #[.int .i64 xk, .int .i64 xc, .int .u64 xa, .int .u64 xb, .slice none 0 0, .slice none 0 0]) :: (Good.own fun v => v = .agg #[.int .i64 0, .bool false, .int .i64 0, .int .u64 0, .slice none 0 0]) :: (Good.own fun v => v = .bool false) :: Good.box 33 #[.int .i64 0, .int .i64 0, .int .u64 0, .int .u64 0, .slice none 0 0, .slice none 0 0] wo.heap.size :: Good.box 37 #[.int .i64 0, .bool false, .int .i64 0, .int .u64 0, .slice none 0 0] wo.heap.size :: []) (by kernel_rfl) (by kernel_rfl) (by kernel_rfl) rfl (by kernel_rfl) (by kernel_rfl) rfl (by kernel_rfl) (by kernel_rfl) (by kernel_rfl) rfl (fun _ _ _ _ _ h => h) ?hlate ?hone ?hend
              case hlate =>
                intro V hV
                refine ⟨?_, ?_, trivial⟩
                · intro wx hx ρ hρ hs hfr o ho
                  obtain ⟨sn8, -⟩ := hs
                  rw [place_at hV (k := 8) rfl] at sn8
                  rw [place_at hV (k := 10) rfl]
                  obtain rfl := Option.some.inj ho
                  have e8 : ρ (.tmp 115) = .tuple #[.agg #[.int .i64 xk, .int .i64 xc, .int .u64 xa, .int .u64 xb, .slice none 0 0, .slice none 0 0], .agg #[.int .i64 0, .bool false, .int .i64 0, .int .u64 0, .slice none 0 0], .bool false] := sn8
                  refine ⟨.agg #[.int .i64 0, .bool false, .int .i64 0, .int .u64 0, .slice none 0 0], fun w'' => ?_, rfl⟩
                  go_simp
                · intro wx hx ρ hρ hs hfr o ho
                  obtain ⟨sn8, -⟩ := hs
                  rw [place_at hV (k := 8) rfl] at sn8
                  rw [place_at hV (k := 11) rfl]
                  obtain rfl := Option.some.inj ho
                  have e8 : ρ (.tmp 115) = .tuple #[.agg #[.int .i64 xk, .int .i64 xc, .int .u64 xa, .int .u64 xb, .slice none 0 0, .slice none 0 0], .agg #[.int .i64 0, .bool false, .int .i64 0, .int .u64 0, .slice none 0 0], .bool false] := sn8
                  refine ⟨.bool false, fun w'' => ?_, rfl⟩
                  go_simp
              case hone =>
                intro CS frS VS hCS ha hV
                have qs8 := slot_val (t := 8) ha rfl
                simp only [List.getElem_toArray, List.getElem_cons_succ, List.getElem_cons_zero] at qs8
                have qs20 := slot_val (t := 20) ha rfl
                simp only [List.getElem_toArray, List.getElem_cons_succ, List.getElem_cons_zero] at qs20
                have qs23 := slot_val (t := 23) ha rfl
                simp only [List.getElem_toArray, List.getElem_cons_succ, List.getElem_cons_zero] at qs23
                have qs24 := slot_val (t := 24) ha rfl
                simp only [List.getElem_toArray, List.getElem_cons_succ, List.getElem_cons_zero] at qs24
                have HCS := Lib.hid hCS
                have HVS := Lib.hid hV
                clear ha hCS hV
                -- 0: slot 116 := Op.move t8
                refine sure_det (js := []) (ts := [8]) (gd := none) (place_at HVS.out (k := 0) rfl) (by rw [HCS.out]; kernel_rfl) ?_ ?_
                · intro wx hx ρ hρ hs hf
                  have hρc := hρ.const
                  have hρf := hρ.func
                  obtain ⟨fx8, -⟩ := hf
                  rw [qs8] at fx8
                  clear hs
                  clear HCS HVS qs8 qs20 qs23 qs24
                  refine run_plain ?_
                  refine op_move rfl fx8 ?_
                  exact detK.mk
                -- 1: slot 117 := Op.move t23
                refine sure_det (js := []) (ts := [23]) (gd := none) (place_at HVS.out (k := 1) rfl) (by rw [HCS.out]; kernel_rfl) ?_ ?_
                · intro wx hx ρ hρ hs hf
                  have hρc := hρ.const
                  have hρf := hρ.func
                  obtain ⟨fx23, -⟩ := hf
                  rw [qs23] at fx23
                  clear hs
                  clear HCS HVS qs8 qs20 qs23 qs24
                  refine run_plain ?_
                  refine op_move rfl fx23 ?_
                  exact detK.mk
                -- 2: slot 118 := Op.load 24 t24
                refine sure_det (js := []) (ts := [24]) (gd := none) (place_at HVS.out (k := 2) rfl) (by rw [HCS.out]; kernel_rfl) ?_ ?_
                · intro wx hx ρ hρ hs hf
                  have hρc := hρ.const
                  have hρf := hρ.func
                  obtain ⟨fx24, -⟩ := hf
                  rw [qs24] at fx24
                  clear hs
                  clear HCS HVS qs8 qs20 qs23 qs24
                  refine run_plain ?_
                  obtain ⟨p0, p1, p2, p3, p4⟩ := hX wx hx.drawn
                  unfold runs
                  go_simp
                  exact detK.mk
                -- 3: slot 119 := Op.move t20
                refine sure_det (js := []) (ts := [20]) (gd := none) (place_at HVS.out (k := 3) rfl) (by rw [HCS.out]; kernel_rfl) ?_ ?_
                · intro wx hx ρ hρ hs hf
                  have hρc := hρ.const
                  have hρf := hρ.func
                  obtain ⟨fx20, -⟩ := hf
                  rw [qs20] at fx20
                  clear hs
                  clear HCS HVS qs8 qs20 qs23 qs24
                  refine run_plain ?_
                  refine op_move rfl fx20 ?_
                  exact detK.mk
                -- 4: slot 120 := Op.move t23
                refine sure_det (js := []) (ts := [23]) (gd := none) (place_at HVS.out (k := 4) rfl) (by rw [HCS.out]; kernel_rfl) ?_ ?_
                · intro wx hx ρ hρ hs hf
                  have hρc := hρ.const
                  have hρf := hρ.func
                  obtain ⟨fx23, -⟩ := hf
                  rw [qs23] at fx23
                  clear hs
                  clear HCS HVS qs8 qs20 qs23 qs24
                  refine run_plain ?_
                  refine op_move rfl fx23 ?_
                  exact detK.mk
                -- 5: slot 121 := Op.indexAddr 57 t119 t120
                refine sure_det (js := [(3, 119), (4, 120)]) (ts := []) (gd := none) (place_at HVS.out (k := 5) rfl) (by rw [HCS.out]; kernel_rfl) ?_ ?_
                · intro wx hx ρ hρ hs hf
                  have hρc := hρ.const
                  have hρf := hρ.func
                  obtain ⟨sn3, sn4, -⟩ := hs
                  rw [place_at HVS.out (k := 3) rfl] at sn3
                  replace sn3 : ρ (.tmp 119) = _ := sn3
                  rw [place_at HVS.out (k := 4) rfl] at sn4
                  replace sn4 : ρ (.tmp 120) = _ := sn4
                  clear hf
                  clear HCS HVS qs8 qs20 qs23 qs24
                  refine run_plain ?_
                  unfold runs
                  go_simp
                  exact detK.mk
                -- 6: slot 122 := Op.load 25 t121
                refine sure_det (js := [(5, 121)]) (ts := []) (gd := none) (place_at HVS.out (k := 6) rfl) (by rw [HCS.out]; kernel_rfl) ?_ ?_
                · intro wx hx ρ hρ hs hf
                  have hρc := hρ.const
                  have hρf := hρ.func
                  obtain ⟨sn5, -⟩ := hs
                  rw [place_at HVS.out (k := 5) rfl] at sn5
                  replace sn5 : ρ (.tmp 121) = _ := sn5
                  clear hf
                  clear HCS HVS qs8 qs20 qs23 qs24
                  refine run_plain ?_
                  obtain ⟨p0, p1, p2, p3, p4⟩ := hX wx hx.drawn
                  unfold runs
                  go_simp
                  exact detK.mk
                -- 7: slot 123 := Op.call { call ( 17), args := #[(i64 3), t116, t117, t118, t122], argTypes := #[3, 3, 3, 2
                refine sure_op (js := [(0, 116), (1, 117), (2, 118), (6, 122)]) (ts := []) (gd := none) (place_at HVS.out (k := 7) rfl) (by rw [HCS.out]; kernel_rfl) ?_ ?_
                · intro wx hx ρ hρ hs hf
                  have hρc := hρ.const
                  have hρf := hρ.func
                  obtain ⟨sn0, sn1, sn2, sn6, -⟩ := hs
                  rw [place_at HVS.out (k := 0) rfl] at sn0
                  replace sn0 : ρ (.tmp 116) = _ := sn0
                  rw [place_at HVS.out (k := 1) rfl] at sn1
                  replace sn1 : ρ (.tmp 117) = _ := sn1
                  rw [place_at HVS.out (k := 2) rfl] at sn2
                  replace sn2 : ρ (.tmp 118) = _ := sn2
                  rw [place_at HVS.out (k := 6) rfl] at sn6
                  replace sn6 : ρ (.tmp 122) = _ := sn6
                  clear hf
                  clear HCS HVS qs8 qs20 qs23 qs24
                  refine run_plain ?_
                  refine op_call rfl hρ Try.call17 (map_five (hρ.const _) sn0 sn1 sn2 sn6) ?_
                  refine Calls.mono (hcon _ (hlogV.ext hx.drawn)) ?_
                  rintro e w' ⟨rfl, hx5⟩
                  exact ⟨_, rfl, hx5, rfl⟩
                -- 8: slot 115 := Op.move t123
                refine sure_op (js := [(7, 123)]) (ts := []) (gd := none) (place_at HVS.out (k := 8) rfl) (by rw [HCS.out]; kernel_rfl) ?_ ?_
                · intro wx hx ρ hρ hs hf
                  have hρc := hρ.const
                  have hρf := hρ.func
                  obtain ⟨sn7, -⟩ := hs
                  rw [place_at HVS.out (k := 7) rfl] at sn7
                  replace sn7 : (ρ (.tmp 123)) = .tuple #[.agg #[.int .i64 xk, .int .i64 xc, .int .u64 xa, .int .u64 xb, .slice none 0 0, .slice none 0 0], .agg #[.int .i64 0, .bool false, .int .i64 0, .int .u64 0, .slice none 0 0], .bool false] := sn7
                  clear hf
                  clear HCS HVS qs8 qs20 qs23 qs24
                  refine run_plain ?_
                  refine op_move rfl rfl ?_
                  exact ⟨Ext.refl _, sn7⟩
                -- 9: slot 124 := Op.extract t115 0
                refine sure_op (js := [(8, 115)]) (ts := []) (gd := none) (place_at HVS.out (k := 9) rfl) (by rw [HCS.out]; kernel_rfl) ?_ ?_
                · intro wx hx ρ hρ hs hf
                  have hρc := hρ.const
                  have hρf := hρ.func
                  obtain ⟨sn8, -⟩ := hs
                  rw [place_at HVS.out (k := 8) rfl] at sn8
                  replace sn8 : (ρ (.tmp 115)) = .tuple #[.agg #[.int .i64 xk, .int .i64 xc, .int .u64 xa, .int .u64 xb, .slice none 0 0, .slice none 0 0], .agg #[.int .i64 0, .bool false, .int .i64 0, .int .u64 0, .slice none 0 0], .bool false] := sn8
                  clear hf
                  clear HCS HVS qs8 qs20 qs23 qs24
                  refine run_plain ?_
                  unfold runs
                  go_simp
                  first | exact ⟨Ext.refl _, rfl⟩ | exact Ext.refl _
                -- 10: slot 125 := Op.extract t115 1
                refine sure_op (js := [(8, 115)]) (ts := []) (gd := none) (place_at HVS.out (k := 10) rfl) (by rw [HCS.out]; kernel_rfl) ?_ ?_
                · intro wx hx ρ hρ hs hf
                  have hρc := hρ.const
                  have hρf := hρ.func
                  obtain ⟨sn8, -⟩ := hs
                  rw [place_at HVS.out (k := 8) rfl] at sn8
                  replace sn8 : (ρ (.tmp 115)) = .tuple #[.agg #[.int .i64 xk, .int .i64 xc, .int .u64 xa, .int .u64 xb, .slice none 0 0, .slice none 0 0], .agg #[.int .i64 0, .bool false, .int .i64 0, .int .u64 0, .slice none 0 0], .bool false] := sn8
                  clear hf
                  clear HCS HVS qs8 qs20 qs23 qs24
                  refine run_plain ?_
                  unfold runs
                  go_simp
                  first | exact ⟨Ext.refl _, rfl⟩ | exact Ext.refl _
                -- 11: slot 126 := Op.extract t115 2
                refine sure_op (js := [(8, 115)]) (ts := []) (gd := none) (place_at HVS.out (k := 11) rfl) (by rw [HCS.out]; kernel_rfl) ?_ ?_
                · intro wx hx ρ hρ hs hf
                  have hρc := hρ.const
                  have hρf := hρ.func
                  obtain ⟨sn8, -⟩ := hs
                  rw [place_at HVS.out (k := 8) rfl] at sn8
                  replace sn8 : (ρ (.tmp 115)) = .tuple #[.agg #[.int .i64 xk, .int .i64 xc, .int .u64 xa, .int .u64 xb, .slice none 0 0, .slice none 0 0], .agg #[.int .i64 0, .bool false, .int .i64 0, .int .u64 0, .slice none 0 0], .bool false] := sn8
                  clear hf
                  clear HCS HVS qs8 qs20 qs23 qs24
                  refine run_plain ?_
                  unfold runs
                  go_simp
                  first | exact ⟨Ext.refl _, rfl⟩ | exact Ext.refl _
                -- 12: slot 25 := Op.alloc 33
                refine sure_op (js := []) (ts := []) (gd := none) (place_at HVS.out (k := 12) rfl) (by rw [HCS.out]; kernel_rfl) ?_ ?_
                · intro wx hx ρ hρ hs hf
                  have hρc := hρ.const
                  have hρf := hρ.func
                  clear hs
                  clear hf
                  clear HCS HVS qs8 qs20 qs23 qs24
                  refine run_plain ?_
                  refine op_alloc rfl (Try.zeroValue33 _) ?_
                  exact ⟨Ext.refl _ |>.alloc (Nat.le_refl _) _, wx.heap.size, rfl, hx.size, heap_alloc_new wx _⟩
                -- 13: slot 26 := Op.alloc 37
                refine sure_op (js := []) (ts := []) (gd := none) (place_at HVS.out (k := 13) rfl) (by rw [HCS.out]; kernel_rfl) ?_ ?_
                · intro wx hx ρ hρ hs hf
                  have hρc := hρ.const
                  have hρf := hρ.func
                  clear hs
                  clear hf
                  clear HCS HVS qs8 qs20 qs23 qs24
                  refine run_plain ?_
                  refine op_alloc rfl (Try.zeroValue37 _) ?_
                  exact ⟨Ext.refl _ |>.alloc (Nat.le_refl _) _, wx.heap.size, rfl, hx.size, heap_alloc_new wx _⟩
                exact trivial
              case hend =>
                intro xs wx hx hg
                have gk0 : xs 0 = _ := goods_get hg (i := 0) (j := 0) (d := 116) rfl
                have gk1 : xs 1 = _ := goods_get hg (i := 1) (j := 1) (d := 117) rfl
                have gk2 : xs 2 = _ := goods_get hg (i := 2) (j := 2) (d := 118) rfl
                have gk3 : xs 3 = _ := goods_get hg (i := 3) (j := 3) (d := 119) rfl
                have gk4 : xs 4 = _ := goods_get hg (i := 4) (j := 4) (d := 120) rfl
                have gk5 : xs 5 = _ := goods_get hg (i := 5) (j := 5) (d := 121) rfl
                have gk6 : xs 6 = _ := goods_get hg (i := 6) (j := 6) (d := 122) rfl
                have gk7 : (xs 7) = .tuple #[.agg #[.int .i64 xk, .int .i64 xc, .int .u64 xa, .int .u64 xb, .slice none 0 0, .slice none 0 0], .agg #[.int .i64 0, .bool false, .int .i64 0, .int .u64 0, .slice none 0 0], .bool false] := goods_get hg (i := 7) (j := 7) (d := 123) rfl
                have gk8 : (xs 8) = .tuple #[.agg #[.int .i64 xk, .int .i64 xc, .int .u64 xa, .int .u64 xb, .slice none 0 0, .slice none 0 0], .agg #[.int .i64 0, .bool false, .int .i64 0, .int .u64 0, .slice none 0 0], .bool false] := goods_get hg (i := 8) (j := 8) (d := 115) rfl
                have gk9 : (xs 9) = .agg #[.int .i64 xk, .int .i64 xc, .int .u64 xa, .int .u64 xb, .slice none 0 0, .slice none 0 0] := goods_get hg (i := 9) (j := 9) (d := 124) rfl
                have gk10 : (xs 10) = .agg #[.int .i64 0, .bool false, .int .i64 0, .int .u64 0, .slice none 0 0] := goods_get hg (i := 10) (j := 10) (d := 125) rfl
                have gk11 : (xs 11) = .bool false := goods_get hg (i := 11) (j := 11) (d := 126) rfl
                have gk12 : boxG 33 #[.int .i64 0, .int .i64 0, .int .u64 0, .int .u64 0, .slice none 0 0, .slice none 0 0] wo.heap.size (xs 12) wx := goods_get hg (i := 12) (j := 12) (d := 25) rfl
                have gk13 : boxG 37 #[.int .i64 0, .bool false, .int .i64 0, .int .u64 0, .slice none 0 0] wo.heap.size (xs 13) wx := goods_get hg (i := 13) (j := 13) (d := 26) rfl
                clear hg
                simp only [putAll, gk0, gk1, gk2, gk3, gk4, gk5, gk6]
                clear gk0 gk1 gk2 gk3 gk4 gk5 gk6
                generalize xs 7 = vx7 at gk7 ⊢
                generalize xs 8 = vx8 at gk8 ⊢
                generalize xs 9 = vx9 at gk9 ⊢
                generalize xs 10 = vx10 at gk10 ⊢
                generalize xs 11 = vx11 at gk11 ⊢
                generalize xs 12 = vx12 at gk12 ⊢
                generalize xs 13 = vx13 at gk13 ⊢
                clear xs
                simp only [Act.put, List.setIfInBounds_toArray, List.set_cons_zero, List.set_cons_succ, List.drop_succ_cons, List.drop_zero]
                obtain ⟨gA, rfl, hgA, hcA⟩ := gk12
                obtain ⟨gB, rfl, hgB, hcB⟩ := gk13
                obtain rfl := gk9
                obtain rfl := gk10
                obtain rfl := gk11
                have hne_ : gA ≠ gB := fun e => by subst e; rw [hcA] at hcB; cases hcB
                have hE2 : Ext wo (((((((((((wx.setCell ⟨gA, 0, none⟩ (.int .i64 xk)).setCell ⟨gA, 1, none⟩ (.int .i64 xc)).setCell ⟨gA, 2, none⟩ (.int .u64 xa)).setCell ⟨gA, 3, none⟩ (.int .u64 xb)).setCell ⟨gA, 4, none⟩ (.slice none 0 0)).setCell ⟨gA, 5, none⟩ (.slice none 0 0)).setCell ⟨gB, 0, none⟩ (.int .i64 0)).setCell ⟨gB, 1, none⟩ (.bool false)).setCell ⟨gB, 2, none⟩ (.int .i64 0)).setCell ⟨gB, 3, none⟩ (.int .u64 0)).setCell ⟨gB, 4, none⟩ (.slice none 0 0)) := setAll_ext (g := gB) (vs := [.int .i64 0, .bool false, .int .i64 0, .int .u64 0, .slice none 0 0]) (i := 0) (setAll_ext (g := gA) (vs := [.int .i64 xk, .int .i64 xc, .int .u64 xa, .int .u64 xb, .slice none 0 0, .slice none 0 0]) (i := 0) hx.drawn hgA) hgB
                have hAc : (((((((((((wx.setCell ⟨gA, 0, none⟩ (.int .i64 xk)).setCell ⟨gA, 1, none⟩ (.int .i64 xc)).setCell ⟨gA, 2, none⟩ (.int .u64 xa)).setCell ⟨gA, 3, none⟩ (.int .u64 xb)).setCell ⟨gA, 4, none⟩ (.slice none 0 0)).setCell ⟨gA, 5, none⟩ (.slice none 0 0)).setCell ⟨gB, 0, none⟩ (.int .i64 0)).setCell ⟨gB, 1, none⟩ (.bool false)).setCell ⟨gB, 2, none⟩ (.int .i64 0)).setCell ⟨gB, 3, none⟩ (.int .u64 0)).setCell ⟨gB, 4, none⟩ (.slice none 0 0)).heap[gA]? = some (.cells #[.int .i64 xk, .int .i64 xc, .int .u64 xa, .int .u64 xb, .slice none 0 0, .slice none 0 0] 33 (0, 0)) := (setAll_other (g := gB) hne_ [.int .i64 0, .bool false, .int .i64 0, .int .u64 0, .slice none 0 0] 0 (setAll gA 0 [.int .i64 xk, .int .i64 xc, .int .u64 xa, .int .u64 xb, .slice none 0 0, .slice none 0 0] wx)).trans (setAll_all (vs := [.int .i64 xk, .int .i64 xc, .int .u64 xa, .int .u64 xb, .slice none 0 0, .slice none 0 0]) hcA rfl)
                have hBm : (setAll gA 0 [.int .i64 xk, .int .i64 xc, .int .u64 xa, .int .u64 xb, .slice none 0 0, .slice none 0 0] wx).heap[gB]? = _ := (setAll_other (g := gA) (Ne.symm hne_) [.int .i64 xk, .int .i64 xc, .int .u64 xa, .int .u64 xb, .slice none 0 0, .slice none 0 0] 0 wx).trans hcB
                have hOu : (((((((((((wx.setCell ⟨gA, 0, none⟩ (.int .i64 xk)).setCell ⟨gA, 1, none⟩ (.int .i64 xc)).setCell ⟨gA, 2, none⟩ (.int .u64 xa)).setCell ⟨gA, 3, none⟩ (.int .u64 xb)).setCell ⟨gA, 4, none⟩ (.slice none 0 0)).setCell ⟨gA, 5, none⟩ (.slice none 0 0)).setCell ⟨gB, 0, none⟩ (.int .i64 0)).setCell ⟨gB, 1, none⟩ (.bool false)).setCell ⟨gB, 2, none⟩ (.int .i64 0)).setCell ⟨gB, 3, none⟩ (.int .u64 0)).setCell ⟨gB, 4, none⟩ (.slice none 0 0)).heap[gB]? = some (.cells #[.int .i64 0, .bool false, .int .i64 0, .int .u64 0, .slice none 0 0] 37 (0, 0)) := setAll_all (vs := [.int .i64 0, .bool false, .int .i64 0, .int .u64 0, .slice none 0 0]) hBm rfl
                have y0 : wx.cell? ⟨gA, 0, none⟩ = some (.int .i64 0) := by simp [World.cell?, hcA]
                have yf0 : wx.frozen? ⟨gA, 0, none⟩ = false := by simp [World.frozen?, hcA]
                have y1 : wx.cell? ⟨gA, 1, none⟩ = some (.int .i64 0) := by simp [World.cell?, hcA]
                have yf1 : wx.frozen? ⟨gA, 1, none⟩ = false := by simp [World.frozen?, hcA]
                have y2 : wx.cell? ⟨gA, 2, none⟩ = some (.int .u64 0) := by simp [World.cell?, hcA]
                have yf2 : wx.frozen? ⟨gA, 2, none⟩ = false := by simp [World.frozen?, hcA]
                have y3 : wx.cell? ⟨gA, 3, none⟩ = some (.int .u64 0) := by simp [World.cell?, hcA]
                have yf3 : wx.frozen? ⟨gA, 3, none⟩ = false := by simp [World.frozen?, hcA]
                have y4 : wx.cell? ⟨gA, 4, none⟩ = some (.slice none 0 0) := by simp [World.cell?, hcA]
                have yf4 : wx.frozen? ⟨gA, 4, none⟩ = false := by simp [World.frozen?, hcA]
                have y5 : wx.cell? ⟨gA, 5, none⟩ = some (.slice none 0 0) := by simp [World.cell?, hcA]
                have yf5 : wx.frozen? ⟨gA, 5, none⟩ = false := by simp [World.frozen?, hcA]
                have u0 : wx.cell? ⟨gB, 0, none⟩ = some (.int .i64 0) := by simp [World.cell?, hcB]
                have uf0 : wx.frozen? ⟨gB, 0, none⟩ = false := by simp [World.frozen?, hcB]
                have u1 : wx.cell? ⟨gB, 1, none⟩ = some (.bool false) := by simp [World.cell?, hcB]
                have uf1 : wx.frozen? ⟨gB, 1, none⟩ = false := by simp [World.frozen?, hcB]
                have u2 : wx.cell? ⟨gB, 2, none⟩ = some (.int .i64 0) := by simp [World.cell?, hcB]
                have uf2 : wx.frozen? ⟨gB, 2, none⟩ = false := by simp [World.frozen?, hcB]
                have u3 : wx.cell? ⟨gB, 3, none⟩ = some (.int .u64 0) := by simp [World.cell?, hcB]
                have uf3 : wx.frozen? ⟨gB, 3, none⟩ = false := by simp [World.frozen?, hcB]
                have u4 : wx.cell? ⟨gB, 4, none⟩ = some (.slice none 0 0) := by simp [World.cell?, hcB]
                have uf4 : wx.frozen? ⟨gB, 4, none⟩ = false := by simp [World.frozen?, hcB]
                go_upto_region 30 with (fail)
                generalize (((((((((((wx.setCell ⟨gA, 0, none⟩ (.int .i64 xk)).setCell ⟨gA, 1, none⟩ (.int .i64 xc)).setCell ⟨gA, 2, none⟩ (.int .u64 xa)).setCell ⟨gA, 3, none⟩ (.int .u64 xb)).setCell ⟨gA, 4, none⟩ (.slice none 0 0)).setCell ⟨gA, 5, none⟩ (.slice none 0 0)).setCell ⟨gB, 0, none⟩ (.int .i64 0)).setCell ⟨gB, 1, none⟩ (.bool false)).setCell ⟨gB, 2, none⟩ (.int .i64 0)).setCell ⟨gB, 3, none⟩ (.int .u64 0)).setCell ⟨gB, 4, none⟩ (.slice none 0 0)) = w8 at *
                clear hcA hcB hBm hx hX hcon hlogV y0 yf0 y1 yf1 y2 yf2 y3 yf3 y4 yf4 y5 yf5 u0 uf0 u1 uf1 u2 uf2 u3 uf3 u4 uf4
                have hgAs : gs ≤ gA := Nat.le_trans hgr hgA
                have hgBs : gs ≤ gB := Nat.le_trans hgr hgB
                replace hO := heap_ext hO hE2
                replace hbx := hbx.ext hE2
                replace hS3 := hS3.ext hE2
                replace hH3 := hH3.ext hE2
                replace hL3 := hL3.ext hE2
                replace hK4 := heap_ext hK4 hE2
                replace hR := hR.ext hE2
                replace hlog := fun a => (hlog a).ext hE2
                replace hWr := hWr.trans hE2
                replace hgr := Nat.le_trans hgr (Below.size hE2)
                clear hE2 hgA hgB hne_
                have hok' := hok
                obtain ⟨hk0, hk4, hua, hub⟩ := hok
                simp only at hk0 hk4 hua hub
                clear hOu
                have o0 : w8.cell? ⟨gO, 0, none⟩ = some (.int .i64 (kindS (st me))) := by simp [World.cell?, hO]
                have o1 : w8.cell? ⟨gO, 1, none⟩ = some (.int .i64 (hv me)) := by simp [World.cell?, hO]
                have o2 : w8.cell? ⟨gO, 2, none⟩ = some (.int .i64 0) := by simp [World.cell?, hO]
                have o3 : w8.cell? ⟨gO, 3, none⟩ = some (.int .u64 0) := by simp [World.cell?, hO]
                by_cases hs2 : st me = 2
                all_goals try (exfalso; have := HS2.out; omega)
                try case' pos =>
                  have hk5 : (kindS (st me) == 5) = true := by rw [kind5 hst4]; exact decide_eq_true hs2
                  have hHm := (hH3.at (i := me) (by omega)).1
                  have hlg0 : ∃ B c, lg me = .slice B (rs me).length c := by
                    obtain ⟨B, c, e, -⟩ := (hlog me).log (by unfold FS at hF; omega)
                    exact ⟨B, c, e⟩
                  obtain ⟨LB2, LC2, hlgE⟩ := hlg0
                  have hLm : w8.cell? ⟨gS + 1 + 1, me, none⟩ = some (.slice LB2 (rs me).length LC2) := by rw [← hlgE]; exact (hL3.at (i := me) (by omega)).1
                  clear hlgE
                  by_cases hz : (rs me).length = 0
                  case' pos =>
                    have hzB : (((rs me).length : Int) == 0) = true := beq_iff_eq.2 (by omega)
                    clear hz
                    have hst := hst2 hs2
                    clear hst1 hst2 hs2
                    have hWn : Ext w8 (w8.alloc (.cells #[.int .i64 (hv me)] 3)) := (Below.refl _ w8).alloc (Nat.le_refl _) _
                    have hcn : ∀ (i : Nat) (u : Value), (intCells [hv me])[i]? = some u → (w8.alloc (.cells #[.int .i64 (hv me)] 3)).cell? ((⟨w8.heap.size, 0, none⟩ : Addr).add i) = some u := heap_cells (heap_alloc_new w8 _)
                    obtain ⟨RB, RC, rfl, -, -, -, hRl1, hRl2⟩ := hR.form
                    have hown2 := hR.ext hWn
                    go_upto_region 41 with (at_builtin; go_loud (refine wpList_append_int rfl (.tmp 194) (.tmp 199) _ rfl gs i0 Try.underlying35 hi0 hz0 hz1 hz2 _ R.length R rfl hown2 ⟨w8.heap.size, 0, none⟩ 1 1 [hv me] rfl (by intro _; omega) rfl hcn (by omega) (Nat.le_trans hgr hWn.size) ?_); intro v2 w8 hown5 hg5 hob5)
                    replace hbx : BoxW w8 ga Xj := by
                      obtain ⟨bv, hb1, hb2⟩ := hbx
                      exact ⟨bv, grownI_heap hown2 hg5 (hown2.low (by omega)) (heap_ext hb1 hWn), WldV.grownI hown2 hg5 (hb2.ext hWn) hkj.2.2⟩
                    replace hS3 := (hS3.ext hWn).keep (w' := w8) (fun o ho => grownI_heap hown2 hg5 (hown2.low (by omega)) ho)
                    replace hH3 := (hH3.ext hWn).keep (w' := w8) (fun o ho => grownI_heap hown2 hg5 (hown2.low (by omega)) ho)
                    replace hL3 := (hL3.ext hWn).keep (w' := w8) (fun o ho => grownI_heap hown2 hg5 (hown2.low (by omega)) ho)
                    replace hK4 := grownI_heap hown2 hg5 (hown2.low (by omega)) (heap_ext hK4 hWn)
                    replace hAc := grownI_heap hown2 hg5 (hown2.ne_box (heap_ext hAc hWn) (by decide)) (heap_ext hAc hWn)
                    replace hlog := fun a => ((hlog a).ext hWn).past hown2 hg5
                    replace hWr := grownI_ext hown2 hg5 (hWr.trans hWn) (by omega)
                    replace hgr : gs ≤ w8.heap.size := Nat.le_trans hgr (Nat.le_trans hWn.size hg5.size)
                    replace hR : IntOwn w8 gs v2 (R ++ [hv me]).length (R ++ [hv me]) := by simpa using hown5
                    have hRl3 : (R ++ [hv me]).length ≤ i + 1 := by simp; omega
                    clear hown2 hg5 hob5 hcn hWn hown5 o0 o1 o2 o3 hO hHm hLm hRl1 hRl2 hRl hsafe
                    generalize R ++ [hv me] = R at *
                  case' neg =>
                    have hzB : (((rs me).length : Int) == 0) = false := beq_eq_false_iff_ne.2 (by omega)
                    clear hz
                    have hst := hst1
                    clear hst1 hst2 hs2
                    go_upto_region 41 with (fail)
                    have hRl3 : R.length ≤ i + 1 := by omega
                    clear o0 o1 o2 o3 hO hHm hLm hRl hsafe
                try case' neg =>
                  have hk5 : (kindS (st me) == 5) = false := by rw [kind5 hst4]; exact decide_eq_false hs2
                  have hst := hst1
                  clear hst1 hst2 hs2
                  go_upto_region 41 with (fail)
                  have hRl3 : R.length ≤ i + 1 := by omega
                  clear o0 o1 o2 o3 hO hRl hsafe
                all_goals
                  obtain ⟨bA, bq, bc, bB, bb, bC, bd, hb0, hbV⟩ := hbx.form
                  clear hbx
                  obtain ⟨hk1, hun, -, -⟩ := hkj.step (me : Int) hok'
                  simp only [Ask.K] at hst hk1 hun
                  have e0 : w8.cell? ⟨ga, 0, none⟩ = some (.int .i64 Xj.T) := by simp [World.cell?, hb0]
                  have e1 : w8.cell? ⟨ga, 1, none⟩ = some (.int .i64 Xj.C) := by simp [World.cell?, hb0]
                  have e2 : w8.cell? ⟨ga, 2, none⟩ = some (.slice bA bq bc) := by simp [World.cell?, hb0]
                  have e3 : w8.cell? ⟨ga, 3, none⟩ = some (.int .u64 Xj.R) := by simp [World.cell?, hb0]
                  have e4 : w8.cell? ⟨ga, 4, none⟩ = some (.slice bB Xj.n bb) := by simp [World.cell?, hb0]
                  have e5 : w8.cell? ⟨ga, 5, none⟩ = some (.slice bC Xj.n bd) := by simp [World.cell?, hb0]
                  have x0 : w8.cell? ⟨gA, 0, none⟩ = some (.int .i64 xk) := by simp [World.cell?, hAc]
                  have x1 : w8.cell? ⟨gA, 1, none⟩ = some (.int .i64 xc) := by simp [World.cell?, hAc]
                  have x2 : w8.cell? ⟨gA, 2, none⟩ = some (.int .u64 xa) := by simp [World.cell?, hAc]
                  have x3 : w8.cell? ⟨gA, 3, none⟩ = some (.int .u64 xb) := by simp [World.cell?, hAc]
                  have x4 : w8.cell? ⟨gA, 4, none⟩ = some (.slice none 0 0) := by simp [World.cell?, hAc]
                  have x5 : w8.cell? ⟨gA, 5, none⟩ = some (.slice none 0 0) := by simp [World.cell?, hAc]
                  go_wp2_with fail
                  refine (do_all _ _ Xj (me : Int) ⟨xk, xc, xa, xb, [], []⟩ false _ hbV ⟨none, 0, 0, none, 0, 0, rfl, bytes_nil _, words_nil _, hua, hub⟩ (useM_word (A := ⟨xk, xc, xa, xb, [], []⟩) hk4 ▸ hkj.1)).mono ?_
                  rintro e w20 ⟨v_, r_, rfl, hVc, hRc, hx_⟩
                  generalize doK Xj (me : Int) ⟨xk, xc, xa, xb, [], []⟩ false = X1 at *
                  generalize doR Xj ⟨xk, xc, xa, xb, [], []⟩ false = R1 at *
                  obtain ⟨cA, cq, cc, cB, cb, cC, cd, rfl⟩ := hVc.form6
                  obtain ⟨yS, ys, yt, rfl, -⟩ := hRc
                  obtain ⟨rN, rD, rF⟩ := R1
                  simp only at hun hst
                  clear hAc hua hub hk0 hk4 hok'
                  replace hS3 := hS3.ext hx_
                  replace hH3 := hH3.ext hx_
                  replace hL3 := hL3.ext hx_
                  replace hK4 := heap_ext hK4 hx_
                  replace hR := hR.ext hx_
                  replace hlog := fun a => (hlog a).ext hx_
                  replace hgr := Nat.le_trans hgr (Below.size hx_)
                  clear e0 e1 e2 e3 e4 e5 x0 x1 x2 x3 x4 x5
                  replace hb0 := heap_ext hb0 hx_
                  replace hbV := hbV.ext hx_
                  replace hWr := hWr.trans hx_
                  clear hx_
                  go_upto_region 42 with (fail)
                  obtain ⟨hx_, hbc, hrc⟩ := two_boxes7 w20 (.cells #[.int .i64 X1.T, .int .i64 X1.C, .slice cA cq cc, .int .u64 X1.R, .slice cB X1.n cb, .slice cC X1.n cd] 51) (.cells #[.int .u64 rN, .slice yS ys yt, .bool rF] 59)
                  generalize (w20.alloc (.cells #[.int .i64 X1.T, .int .i64 X1.C, .slice cA cq cc, .int .u64 X1.R, .slice cB X1.n cb, .slice cC X1.n cd] 51)).alloc (.cells #[.int .u64 rN, .slice yS ys yt, .bool rF] 59) = W21 at *
                  have hgc := hgr
                  replace hS3 := hS3.ext hx_
                  replace hH3 := hH3.ext hx_
                  replace hL3 := hL3.ext hx_
                  replace hK4 := heap_ext hK4 hx_
                  replace hR := hR.ext hx_
                  replace hlog := fun a => (hlog a).ext hx_
                  replace hgr := Nat.le_trans hgr (Below.size hx_)
                  generalize w20.heap.size = gc at *
                  replace hb0 := heap_ext hb0 hx_
                  replace hbV := hbV.ext hx_
                  replace hVc := hVc.ext hx_
                  replace hWr := hWr.trans hx_
                  clear hx_
                  have nc : ¬ ga = gc := by omega
                  have nc' : ¬ gc = ga := by omega
                  have f0 : W21.cell? ⟨gc, 0, none⟩ = some (.int .i64 X1.T) := by simp [World.cell?, hbc]
                  have f1 : W21.cell? ⟨gc, 1, none⟩ = some (.int .i64 X1.C) := by simp [World.cell?, hbc]
                  have f2 : W21.cell? ⟨gc, 2, none⟩ = some (.slice cA cq cc) := by simp [World.cell?, hbc]
                  have f3 : W21.cell? ⟨gc, 3, none⟩ = some (.int .u64 X1.R) := by simp [World.cell?, hbc]
                  have f4 : W21.cell? ⟨gc, 4, none⟩ = some (.slice cB X1.n cb) := by simp [World.cell?, hbc]
                  have f5 : W21.cell? ⟨gc, 5, none⟩ = some (.slice cC X1.n cd) := by simp [World.cell?, hbc]
                  have e0 : W21.cell? ⟨ga, 0, none⟩ = some (.int .i64 Xj.T) := by simp [World.cell?, hb0]
                  have ef0 : W21.frozen? ⟨ga, 0, none⟩ = false := by simp [World.frozen?, hb0]
                  have e1 : W21.cell? ⟨ga, 1, none⟩ = some (.int .i64 Xj.C) := by simp [World.cell?, hb0]
                  have ef1 : W21.frozen? ⟨ga, 1, none⟩ = false := by simp [World.frozen?, hb0]
                  have e2 : W21.cell? ⟨ga, 2, none⟩ = some (.slice bA bq bc) := by simp [World.cell?, hb0]
                  have ef2 : W21.frozen? ⟨ga, 2, none⟩ = false := by simp [World.frozen?, hb0]
                  have e3 : W21.cell? ⟨ga, 3, none⟩ = some (.int .u64 Xj.R) := by simp [World.cell?, hb0]
                  have ef3 : W21.frozen? ⟨ga, 3, none⟩ = false := by simp [World.frozen?, hb0]
                  have e4 : W21.cell? ⟨ga, 4, none⟩ = some (.slice bB Xj.n bb) := by simp [World.cell?, hb0]
                  have ef4 : W21.frozen? ⟨ga, 4, none⟩ = false := by simp [World.frozen?, hb0]
                  have e5 : W21.cell? ⟨ga, 5, none⟩ = some (.slice bC Xj.n bd) := by simp [World.cell?, hb0]
                  have ef5 : W21.frozen? ⟨ga, 5, none⟩ = false := by simp [World.frozen?, hb0]
                  go_upto_region 43 with (fail)
                  have hb0_ : ((((((W21.setCell ⟨ga, 0, none⟩ (.int .i64 X1.T)).setCell ⟨ga, 1, none⟩ (.int .i64 X1.C)).setCell ⟨ga, 2, none⟩ (.slice cA cq cc)).setCell ⟨ga, 3, none⟩ (.int .u64 X1.R)).setCell ⟨ga, 4, none⟩ (.slice cB X1.n cb)).setCell ⟨ga, 5, none⟩ (.slice cC X1.n cd)).heap[ga]? = some (.cells #[.int .i64 X1.T, .int .i64 X1.C, .slice cA cq cc, .int .u64 X1.R, .slice cB X1.n cb, .slice cC X1.n cd] 51 (0, 0)) := setAll_all (vs := [.int .i64 X1.T, .int .i64 X1.C, .slice cA cq cc, .int .u64 X1.R, .slice cB X1.n cb, .slice cC X1.n cd]) hb0 rfl
                  have hWs_ : Ext w ((((((W21.setCell ⟨ga, 0, none⟩ (.int .i64 X1.T)).setCell ⟨ga, 1, none⟩ (.int .i64 X1.C)).setCell ⟨ga, 2, none⟩ (.slice cA cq cc)).setCell ⟨ga, 3, none⟩ (.int .u64 X1.R)).setCell ⟨ga, 4, none⟩ (.slice cB X1.n cb)).setCell ⟨ga, 5, none⟩ (.slice cC X1.n cd)) := setAll_ext (g := ga) (vs := [.int .i64 X1.T, .int .i64 X1.C, .slice cA cq cc, .int .u64 X1.R, .slice cB X1.n cb, .slice cC X1.n cd]) (i := 0) hWr hls
                  have hk_ : ∀ g, g ≠ ga → ((((((W21.setCell ⟨ga, 0, none⟩ (.int .i64 X1.T)).setCell ⟨ga, 1, none⟩ (.int .i64 X1.C)).setCell ⟨ga, 2, none⟩ (.slice cA cq cc)).setCell ⟨ga, 3, none⟩ (.int .u64 X1.R)).setCell ⟨ga, 4, none⟩ (.slice cB X1.n cb)).setCell ⟨ga, 5, none⟩ (.slice cC X1.n cd)).heap[g]? = W21.heap[g]? := fun g hg => setAll_other (g := ga) (k := g) hg [.int .i64 X1.T, .int .i64 X1.C, .slice cA cq cc, .int .u64 X1.R, .slice cB X1.n cb, .slice cC X1.n cd] 0 W21
                  have hrc_ := (hk_ (gc + 1) (by omega)).trans hrc
                  have hVc_ := hVc.but hk1.2.2 (But.all ga [.int .i64 X1.T, .int .i64 X1.C, .slice cA cq cc, .int .u64 X1.R, .slice cB X1.n cb, .slice cC X1.n cd] 0 W21) hb0 rfl
                  change WldV ((((((W21.setCell ⟨ga, 0, none⟩ (.int .i64 X1.T)).setCell ⟨ga, 1, none⟩ (.int .i64 X1.C)).setCell ⟨ga, 2, none⟩ (.slice cA cq cc)).setCell ⟨ga, 3, none⟩ (.int .u64 X1.R)).setCell ⟨ga, 4, none⟩ (.slice cB X1.n cb)).setCell ⟨ga, 5, none⟩ (.slice cC X1.n cd)) _ _ at hVc_
                  have hsz_ : ((((((W21.setCell ⟨ga, 0, none⟩ (.int .i64 X1.T)).setCell ⟨ga, 1, none⟩ (.int .i64 X1.C)).setCell ⟨ga, 2, none⟩ (.slice cA cq cc)).setCell ⟨ga, 3, none⟩ (.int .u64 X1.R)).setCell ⟨ga, 4, none⟩ (.slice cB X1.n cb)).setCell ⟨ga, 5, none⟩ (.slice cC X1.n cd)).heap.size = W21.heap.size := by simp [World.setCell]
                  have hS4 := hS3.keep (w' := ((((((W21.setCell ⟨ga, 0, none⟩ (.int .i64 X1.T)).setCell ⟨ga, 1, none⟩ (.int .i64 X1.C)).setCell ⟨ga, 2, none⟩ (.slice cA cq cc)).setCell ⟨ga, 3, none⟩ (.int .u64 X1.R)).setCell ⟨ga, 4, none⟩ (.slice cB X1.n cb)).setCell ⟨ga, 5, none⟩ (.slice cC X1.n cd))) (fun o ho => (hk_ _ (by omega)).trans ho)
                  have hH4 := hH3.keep (w' := ((((((W21.setCell ⟨ga, 0, none⟩ (.int .i64 X1.T)).setCell ⟨ga, 1, none⟩ (.int .i64 X1.C)).setCell ⟨ga, 2, none⟩ (.slice cA cq cc)).setCell ⟨ga, 3, none⟩ (.int .u64 X1.R)).setCell ⟨ga, 4, none⟩ (.slice cB X1.n cb)).setCell ⟨ga, 5, none⟩ (.slice cC X1.n cd))) (fun o ho => (hk_ _ (by omega)).trans ho)
                  have hL4 := hL3.keep (w' := ((((((W21.setCell ⟨ga, 0, none⟩ (.int .i64 X1.T)).setCell ⟨ga, 1, none⟩ (.int .i64 X1.C)).setCell ⟨ga, 2, none⟩ (.slice cA cq cc)).setCell ⟨ga, 3, none⟩ (.int .u64 X1.R)).setCell ⟨ga, 4, none⟩ (.slice cB X1.n cb)).setCell ⟨ga, 5, none⟩ (.slice cC X1.n cd))) (fun o ho => (hk_ _ (by omega)).trans ho)
                  have hK5 := (hk_ (gS + 1 + 1 + 1) (by omega)).trans hK4
                  have hR2 := hR.kept (w' := ((((((W21.setCell ⟨ga, 0, none⟩ (.int .i64 X1.T)).setCell ⟨ga, 1, none⟩ (.int .i64 X1.C)).setCell ⟨ga, 2, none⟩ (.slice cA cq cc)).setCell ⟨ga, 3, none⟩ (.int .u64 X1.R)).setCell ⟨ga, 4, none⟩ (.slice cB X1.n cb)).setCell ⟨ga, 5, none⟩ (.slice cC X1.n cd))) (fun g o hb _ ho => (hk_ g (by omega)).trans ho)
                  have hlog2 := fun a => (hlog a).kept (w' := ((((((W21.setCell ⟨ga, 0, none⟩ (.int .i64 X1.T)).setCell ⟨ga, 1, none⟩ (.int .i64 X1.C)).setCell ⟨ga, 2, none⟩ (.slice cA cq cc)).setCell ⟨ga, 3, none⟩ (.int .u64 X1.R)).setCell ⟨ga, 4, none⟩ (.slice cB X1.n cb)).setCell ⟨ga, 5, none⟩ (.slice cC X1.n cd))) (fun g o hb ho => (hk_ g (by omega)).trans ho)
                  replace hgr : gs ≤ ((((((W21.setCell ⟨ga, 0, none⟩ (.int .i64 X1.T)).setCell ⟨ga, 1, none⟩ (.int .i64 X1.C)).setCell ⟨ga, 2, none⟩ (.slice cA cq cc)).setCell ⟨ga, 3, none⟩ (.int .u64 X1.R)).setCell ⟨ga, 4, none⟩ (.slice cB X1.n cb)).setCell ⟨ga, 5, none⟩ (.slice cC X1.n cd)).heap.size := by rw [hsz_]; exact hgr
                  clear hS3 hH3 hL3 hK4 hR hlog hk_ hsz_ hbc hb0 hbV hVc hrc f0 f1 f2 f3 f4 f5 e0 e1 e2 e3 e4 e5 ef0 ef1 ef2 ef3 ef4 ef5
                  generalize ((((((W21.setCell ⟨ga, 0, none⟩ (.int .i64 X1.T)).setCell ⟨ga, 1, none⟩ (.int .i64 X1.C)).setCell ⟨ga, 2, none⟩ (.slice cA cq cc)).setCell ⟨ga, 3, none⟩ (.int .u64 X1.R)).setCell ⟨ga, 4, none⟩ (.slice cB X1.n cb)).setCell ⟨ga, 5, none⟩ (.slice cC X1.n cd)) = wz at *
                  obtain ⟨LB3, LC3, hlgE, -, -, -⟩ := (hlog2 me).log (by unfold FS at hF; omega)
                  have hownM : ResOwn wz gs (.slice LB3 (rs me).length LC3) (rs me).length (rs me) := hlgE ▸ hlog2 me
                  have hLm : wz.cell? ⟨gS + 1 + 1, me, none⟩ = some (.slice LB3 (rs me).length LC3) := by rw [← hlgE]; exact (hL4.at (i := me) (by omega)).1
                  have hneM : ∀ b, b ≠ me → ∀ g, (lg b).ownBlock = some g → (Value.slice LB3 (rs me).length LC3).ownBlock ≠ some g := fun b hb g h1 => by rw [← hlgE]; exact hne b me hb g h1
                  have hltO : ∀ b g, (lg b).ownBlock = some g → g < wz.heap.size := fun b g h1 => ((hlog2 b).lt h1).2
                  clear hlgE nc nc' hgc
                  have hX : ∀ wx, Ext wz wx → wx.cell? ⟨gS + 1 + 1, me, none⟩ = some (.slice LB3 (rs me).length LC3) ∧ wx.cell? ⟨gc + 1, 0, none⟩ = some (.int .u64 rN) ∧ wx.cell? ⟨gc + 1, 1, none⟩ = some (.slice yS ys yt) ∧ wx.cell? ⟨gc + 1, 2, none⟩ = some (.bool rF) := fun wx hx =>
                    ⟨hx.cell hLm, hx.cell (by simp [World.cell?, hrc_]), hx.cell (by simp [World.cell?, hrc_]), hx.cell (by simp [World.cell?, hrc_])⟩
                  clear hLm
                  refine' wp_region_lates [(0, []), (1, [])] ⟨((some 209, [], none) :: (some 210, [], none) :: (some 211, [], none) :: (some 212, [], none) :: (some 213, [2, 3], none) :: (some 214, [4], none) :: (some 215, [], none) :: (some 216, [6], none) :: (some 217, [5, 7], none) :: (some 218, [0, 1, 0, 1, 2, 3, 4, 5, 6, 7, 8], none) :: (none, [9, 8, 8, 0, 1, 2, 3, 4, 5, 6, 7, 8], none) :: []), (0 :: 0 :: 0 :: 0 :: 12 :: 28 :: 0 :: 64 :: 252 :: 511 :: 1023 :: []), (true :: true :: true :: true :: true :: true :: true :: false :: []), [], 0⟩ 8 220 ((0, 209) :: (1, 210) :: (2, 211) :: (3, 212) :: (4, 213) :: (5, 214) :: (6, 215) :: (7, 216) :: []) ((0, 209) :: (1, 210) :: (2, 211) :: (3, 212) :: (4, 213) :: (5, 214) :: (6, 215) :: (7, 216) :: []) ((Good.own fun v => v = .slice (some ⟨gS + 1 + 1, 0, none⟩) 3 3) :: (Good.own fun v => v = .int .i64 (me : Int)) :: .det _ :: .det _ :: .det _ :: .det _ :: .det _ :: Good.of (fun v w => ∃ g, v = .slice (some ⟨g, 0, none⟩) 1 1 ∧ wz.heap.size ≤ g ∧ w.heap[g]? = some (.cells #[.int .u64 rN, .slice yS ys yt, .bool rF] 59 (0, 0))) (fun v w w' h hx => let ⟨g, e, hb, h2⟩ := h; ⟨g, e, hb, heap_ext h2 hx⟩) :: []) (by kernel_rfl) (by kernel_rfl) (by kernel_rfl) rfl (by kernel_rfl) (by kernel_rfl) rfl (by kernel_rfl) (by kernel_rfl) (by kernel_rfl) rfl (fun _ _ _ _ _ h => h) ?hlate ?hone ?hend
                  case hlate =>
                    intro V hV
                    refine ⟨?_, ?_, trivial⟩
                    · intro wx hx ρ hρ hs hfr o ho
                      rw [place_at hV (k := 0) rfl]
                      obtain rfl := Option.some.inj ho
                      refine ⟨ρ (.tmp 20), fun w'' => ?_, (hfr 20 (by kernel_rfl)).trans rfl⟩
                      go_simp
                    · intro wx hx ρ hρ hs hfr o ho
                      rw [place_at hV (k := 1) rfl]
                      obtain rfl := Option.some.inj ho
                      refine ⟨ρ (.tmp 23), fun w'' => ?_, (hfr 23 (by kernel_rfl)).trans rfl⟩
                      go_simp
                  case hone =>
                    intro CS frS VS hCS ha hV
                    have qs20 := slot_val (t := 20) ha rfl
                    simp only [List.getElem_toArray, List.getElem_cons_succ, List.getElem_cons_zero] at qs20
                    have qs23 := slot_val (t := 23) ha rfl
                    simp only [List.getElem_toArray, List.getElem_cons_succ, List.getElem_cons_zero] at qs23
                    have qs29 := slot_val (t := 29) ha rfl
                    simp only [List.getElem_toArray, List.getElem_cons_succ, List.getElem_cons_zero] at qs29
                    have HCS := Lib.hid hCS
                    have HVS := Lib.hid hV
                    clear ha hCS hV
                    -- 0: slot 209 := Op.move t20
                    refine sure_op (js := []) (ts := [20]) (gd := none) (place_at HVS.out (k := 0) rfl) (by rw [HCS.out]; kernel_rfl) ?_ ?_
                    · intro wx hx ρ hρ hs hf
                      have hρc := hρ.const
                      have hρf := hρ.func
                      obtain ⟨fx20, -⟩ := hf
                      rw [qs20] at fx20
                      clear hs
                      clear HCS HVS qs20 qs23 qs29
                      refine run_plain ?_
                      refine op_move rfl fx20 ?_
                      exact ⟨Ext.refl _, rfl⟩
                    -- 1: slot 210 := Op.move t23
                    refine sure_op (js := []) (ts := [23]) (gd := none) (place_at HVS.out (k := 1) rfl) (by rw [HCS.out]; kernel_rfl) ?_ ?_
                    · intro wx hx ρ hρ hs hf
                      have hρc := hρ.const
                      have hρf := hρ.func
                      obtain ⟨fx23, -⟩ := hf
                      rw [qs23] at fx23
                      clear hs
                      clear HCS HVS qs20 qs23 qs29
                      refine run_plain ?_
                      refine op_move rfl fx23 ?_
                      exact ⟨Ext.refl _, rfl⟩
                    -- 2: slot 211 := Op.move t20
                    refine sure_det (js := []) (ts := [20]) (gd := none) (place_at HVS.out (k := 2) rfl) (by rw [HCS.out]; kernel_rfl) ?_ ?_
                    · intro wx hx ρ hρ hs hf
                      have hρc := hρ.const
                      have hρf := hρ.func
                      obtain ⟨fx20, -⟩ := hf
                      rw [qs20] at fx20
                      clear hs
                      clear HCS HVS qs20 qs23 qs29
                      refine run_plain ?_
                      refine op_move rfl fx20 ?_
                      exact detK.mk
                    -- 3: slot 212 := Op.move t23
                    refine sure_det (js := []) (ts := [23]) (gd := none) (place_at HVS.out (k := 3) rfl) (by rw [HCS.out]; kernel_rfl) ?_ ?_
                    · intro wx hx ρ hρ hs hf
                      have hρc := hρ.const
                      have hρf := hρ.func
                      obtain ⟨fx23, -⟩ := hf
                      rw [qs23] at fx23
                      clear hs
                      clear HCS HVS qs20 qs23 qs29
                      refine run_plain ?_
                      refine op_move rfl fx23 ?_
                      exact detK.mk
                    -- 4: slot 213 := Op.indexAddr 57 t211 t212
                    refine sure_det (js := [(2, 211), (3, 212)]) (ts := []) (gd := none) (place_at HVS.out (k := 4) rfl) (by rw [HCS.out]; kernel_rfl) ?_ ?_
                    · intro wx hx ρ hρ hs hf
                      have hρc := hρ.const
                      have hρf := hρ.func
                      obtain ⟨sn2, sn3, -⟩ := hs
                      rw [place_at HVS.out (k := 2) rfl] at sn2
                      replace sn2 : ρ (.tmp 211) = _ := sn2
                      rw [place_at HVS.out (k := 3) rfl] at sn3
                      replace sn3 : ρ (.tmp 212) = _ := sn3
                      clear hf
                      clear HCS HVS qs20 qs23 qs29
                      refine run_plain ?_
                      unfold runs
                      go_simp
                      exact detK.mk
                    -- 5: slot 214 := Op.load 25 t213
                    refine sure_det (js := [(4, 213)]) (ts := []) (gd := none) (place_at HVS.out (k := 5) rfl) (by rw [HCS.out]; kernel_rfl) ?_ ?_
                    · intro wx hx ρ hρ hs hf
                      have hρc := hρ.const
                      have hρf := hρ.func
                      obtain ⟨sn4, -⟩ := hs
                      rw [place_at HVS.out (k := 4) rfl] at sn4
                      replace sn4 : ρ (.tmp 213) = _ := sn4
                      clear hf
                      clear HCS HVS qs20 qs23 qs29
                      refine run_plain ?_
                      obtain ⟨p0, p1, p2, p3⟩ := hX wx hx.drawn
                      unfold runs
                      go_simp
                      exact detK.mk
                    -- 6: slot 215 := Op.load 59 t29
                    refine sure_det (js := []) (ts := [29]) (gd := none) (place_at HVS.out (k := 6) rfl) (by rw [HCS.out]; kernel_rfl) ?_ ?_
                    · intro wx hx ρ hρ hs hf
                      have hρc := hρ.const
                      have hρf := hρ.func
                      obtain ⟨fx29, -⟩ := hf
                      rw [qs29] at fx29
                      clear hs
                      clear HCS HVS qs20 qs23 qs29
                      refine run_plain ?_
                      obtain ⟨p0, p1, p2, p3⟩ := hX wx hx.drawn
                      unfold runs
                      go_simp
                      exact detK.mk
                    -- 7: slot 216 := Op.buildSlice 25 1 #[(0, t215]
                    refine sure_op (js := [(6, 215)]) (ts := []) (gd := none) (place_at HVS.out (k := 7) rfl) (by rw [HCS.out]; kernel_rfl) ?_ ?_
                    · intro wx hx ρ hρ hs hf
                      have hρc := hρ.const
                      have hρf := hρ.func
                      obtain ⟨sn6, -⟩ := hs
                      rw [place_at HVS.out (k := 6) rfl] at sn6
                      replace sn6 : ρ (.tmp 215) = _ := sn6
                      clear hf
                      clear HCS HVS qs20 qs23 qs29
                      refine run_plain ?_
                      refine op_buildSlice rfl (by simpa [sn6] using hrr wx (.int .u64 rN) (.slice yS ys yt) (.bool rF)) ?_
                      exact ⟨Ext.refl _ |>.alloc (Nat.le_refl _) _, wx.heap.size, rfl, hx.size, heap_alloc_new wx _⟩
                    exact trivial
                  case hend =>
                    intro xs wx hx hg
                    have gk0 : (xs 0) = .slice (some ⟨gS + 1 + 1, 0, none⟩) 3 3 := goods_get hg (i := 0) (j := 0) (d := 209) rfl
                    have gk1 : (xs 1) = .int .i64 (me : Int) := goods_get hg (i := 1) (j := 1) (d := 210) rfl
                    have gk2 : xs 2 = _ := goods_get hg (i := 2) (j := 2) (d := 211) rfl
                    have gk3 : xs 3 = _ := goods_get hg (i := 3) (j := 3) (d := 212) rfl
                    have gk4 : xs 4 = _ := goods_get hg (i := 4) (j := 4) (d := 213) rfl
                    have gk5 : xs 5 = _ := goods_get hg (i := 5) (j := 5) (d := 214) rfl
                    have gk6 : xs 6 = _ := goods_get hg (i := 6) (j := 6) (d := 215) rfl
                    have gk7 : ∃ g, (xs 7) = .slice (some ⟨g, 0, none⟩) 1 1 ∧ wz.heap.size ≤ g ∧ wx.heap[g]? = some (.cells #[.int .u64 rN, .slice yS ys yt, .bool rF] 59 (0, 0)) := goods_get hg (i := 7) (j := 7) (d := 216) rfl
                    clear hg
                    simp only [putAll, gk2, gk3, gk4, gk5, gk6]
                    clear gk2 gk3 gk4 gk5 gk6
                    generalize xs 0 = vx0 at gk0 ⊢
                    generalize xs 1 = vx1 at gk1 ⊢
                    generalize xs 7 = vx7 at gk7 ⊢
                    clear xs
                    simp only [Act.put, List.setIfInBounds_toArray, List.set_cons_zero, List.set_cons_succ, List.drop_succ_cons, List.drop_zero]
                    obtain ⟨gN, rfl, hgN, hcN⟩ := gk7
                    obtain rfl := gk0
                    obtain rfl := gk1
                    have hxw : Ext wz wx := hx.drawn
                    have hownX := hownM.ext hxw
                    have hnews : ∀ (j : Nat) (u : Value), (resCells [(⟨rN, yS, ys, yt, rF⟩ : Res)])[j]? = some u → wx.cell? ((⟨gN, 0, none⟩ : Addr).add j) = some u := heap_cells hcN
                    have hgrX := Nat.le_trans hgr hxw.size
                    refine wpList_append_res2 rfl (.tmp 214) (.tmp 216) _ rfl gs iR Try.underlying25 hiR hzR0 hzR1 hzR2 _ (rs me).length (rs me) rfl hownX ⟨gN, 0, none⟩ 1 ⟨rN, yS, ys, yt, rF⟩ rfl hnews (by unfold FS at hF; omega) hgrX ?_
                    intro v2 w30 hown5 hg5 hob5
                    obtain ⟨LB9, LC9, rfl, -, -, -⟩ := hown5.log (by unfold FS at hF; omega)
                    have hL9 := (hL4.ext hxw).keep (w' := w30) (fun o ho => grown_heap hownX hg5 (by omega) ho)
                    have hLm := (hL9.at (i := me) (by omega)).1
                    have hLf := (hL9.at (i := me) (by omega)).2
                    go_wp2
                    have hlf := lg_forms hlog2
                    clear hLm hLf hL9
                    have hS3 := (hS4.ext hxw).keep (w' := w30) (fun o ho => grown_heap hownX hg5 (by omega) ho)
                    have hH3 := (hH4.ext hxw).keep (w' := w30) (fun o ho => grown_heap hownX hg5 (by omega) ho)
                    have hL3 := (hL4.ext hxw).keep (w' := w30) (fun o ho => grown_heap hownX hg5 (by omega) ho)
                    have hK4 := grown_heap hownX hg5 (by omega) (heap_ext hK5 hxw)
                    have hbx : BoxW w30 ga X1 := ⟨_, grown_heap hownX hg5 (by omega) (heap_ext hb0_ hxw), WldV.grown hownX hg5 (hVc_.ext hxw) hk1.2.2⟩
                    have hR := (hR2.ext hxw).past hownX hg5
                    have hWr := grown_ext hownX hg5 (hWs_.trans hxw) (by omega)
                    have hgr := Nat.le_trans hgrX hg5.size
                    have hlog := log_up (lg := lg) (me := me) (l := rs me ++ [(⟨rN, yS, ys, yt, rF⟩ : Res)]) (v := .slice LB9 ((rs me).length + 1) LC9) (fun b hb => ((hlog2 b).ext hxw).grownO hg5 (hneM b hb)) (by simpa using hown5)
                    have hgood2 := good_up (me := me) hgood (l := rs me ++ [(⟨rN, yS, ys, yt, rF⟩ : Res)]) ((hgood me).snoc hun)
                    have hne2 := ne_up (me := me) (v := .slice LB9 ((rs me).length + 1) LC9) hne (fun b hb g h1 h2 => by
                      rcases hob5 with h3 | h3
                      · exact hneM b hb g h2 (h3.symm.trans h1)
                      · rw [h3] at h1; injection h1 with h1
                        have := hltO b g h2
                        have := hxw.size
                        omega)
                    have hns : up (fun a => (rs a).map Res.n) me ((rs me).map Res.n ++ [rN]) = fun a => (up rs me (rs me ++ [(⟨rN, yS, ys, yt, rF⟩ : Res)]) a).map Res.n := by rw [up_map]; simp
                    rw [hns] at hst
                    have hkj := hk1
                    clear hns hown5 hg5 hob5 hownX hlog2 hS4 hH4 hL4 hK5 hR2 hb0_ hVc_ hWs_ hnews hcN hownM hgrX
                    obtain ⟨ct_, hct_, hbt_⟩ : ∃ cs : List Value, w30.heap[gS + 1 + 1]? = some (.cells cs.toArray 25 (0, 0)) ∧ boxish cs = true := lg_box hL3 hlf
                    have hbut : But (gS + 1 + 1) w30 (w30.setCell ⟨gS + 1 + 1, me, none⟩ (.slice LB9 ((rs me).length + 1) LC9)) := fun k o hk ho => (setAll_other (g := gS + 1 + 1) (k := k) hk [.slice LB9 ((rs me).length + 1) LC9] me w30).trans ho
                    have hsz_ : (w30.setCell ⟨gS + 1 + 1, me, none⟩ (.slice LB9 ((rs me).length + 1) LC9)).heap.size = w30.heap.size := by simp [World.setCell]
                    have hWr2 : Ext w (w30.setCell ⟨gS + 1 + 1, me, none⟩ (.slice LB9 ((rs me).length + 1) LC9)) := set_ext hWr (by omega)
                    have hL2 := hL3.set (i := me) (by omega) (.slice LB9 ((rs me).length + 1) LC9)
                    have hS2 := hS3.keep (w' := (w30.setCell ⟨gS + 1 + 1, me, none⟩ (.slice LB9 ((rs me).length + 1) LC9))) (fun o ho => hbut _ _ (by omega) ho)
                    have hH2 := hH3.keep (w' := (w30.setCell ⟨gS + 1 + 1, me, none⟩ (.slice LB9 ((rs me).length + 1) LC9))) (fun o ho => hbut _ _ (by omega) ho)
                    have hK2 := hbut _ _ (by omega) hK4
                    have hbx2 := hbx.but3 hbut hct_ hbt_ (by omega) hkj.2.2
                    have hR2 := hR.kept (w' := (w30.setCell ⟨gS + 1 + 1, me, none⟩ (.slice LB9 ((rs me).length + 1) LC9))) (fun g o hb _ ho => hbut _ _ (by omega) ho)
                    have hlog2 := fun a => (hlog a).kept (w' := (w30.setCell ⟨gS + 1 + 1, me, none⟩ (.slice LB9 ((rs me).length + 1) LC9))) (fun g o hb ho => hbut _ _ (by omega) ho)
                    replace hgr : gs ≤ (w30.setCell ⟨gS + 1 + 1, me, none⟩ (.slice LB9 ((rs me).length + 1) LC9)).heap.size := by rw [hsz_]; exact hgr
                    clear hS3 hH3 hL3 hK4 hbx hR hlog hWr hct_ hbt_ hbut hsz_ ct_ 
                    generalize (w30.setCell ⟨gS + 1 + 1, me, none⟩ (.slice LB9 ((rs me).length + 1) LC9)) = wend at *
                    have hbx := hbx2
                    clear hbx2
                    have hR := hR2
                    clear hR2
                    have hlog := hlog2
                    clear hlog2
                    have hWr := hWr2
                    clear hWr2
                    have hK4 := hK2
                    clear hK2
                    have hS3 := hS2
                    clear hS2
                    have hH3 := hH2
                    clear hH2
                    have hL3 := hL2
                    clear hL2
                    go_roundw
                    case rel => exact ⟨i + 1, X1, k', st, hv, up own me own', up rs me (rs me ++ [(⟨rN, yS, ys, yt, rF⟩ : Res)]), up lg me (.slice LB9 ((rs me).length + 1) LC9), _, by go_num, by omega, hbx, hk1, hst, hS3, hH3, hL3, hK4, hR, hlog, hgood2, hne2, hRl3, hWr, hgr⟩
                    case measure => simp [intOf]; omega
set_option maxRecDepth 100000 in
theorem EpochSafe_lifted (os : Os) (started : os.Started) (H : Type) (enc : TypeId × Value → H) :
    ReturnsInHanded {} Try.checked os 5 .any (Rows.epochSafeSpec.pre6 enc Try.prog Try.f5 Rows.epochSafeRow.domain false) (Rows.epochSafeSpec.post enc Try.prog Try.f5 false true false false) := by
  refine law_row os started H enc Rows.epochSafeSpec rfl (fun ds h => by
    match ds, h with
    | [_, _, _], _ => rfl) (by kernel_rfl) Try.func5 rfl
    (by rw [Try.params5]; intro t ht; simp at ht; rcases ht with rfl | rfl <;> exact ⟨by kernel_rfl, of_decide_eq_true (by kernel_rfl)⟩)
    (ChangeSpec.witness6 (enc := enc) (C := Try.checked) false ⟨#[], #[.int .u8 0, .int .u8 0, .slice none 0 0], []⟩ 8 (by kernel_rfl) (by kernel_rfl) (by kernel_rfl) (by kernel_rfl)) ?_
  intro W base args ds ps hval hA hlt
  rw [Try.params5] at hA hval
  obtain ⟨v0, v1, v2, d0, d1, d2, p0, p1, p2, rfl, rfl, rfl, h0, h1, h2⟩ := trodAll_three hA
  obtain ⟨t, rfl, rfl, rfl, w1⟩ := open_int Try.underlying5 (hval 0 _ v0 rfl rfl) h0
  obtain ⟨c, rfl, rfl, rfl, w2⟩ := open_int Try.underlying5 (hval 1 _ v1 rfl rfl) h1
  obtain ⟨M, m, mc, ms, rfl, hM⟩ := open_bytes1 (hval 2 _ v2 rfl rfl) h2
  have b1 := wf_u8 w1
  have b2 := wf_u8 w2
  obtain ⟨tn, rfl⟩ := Int.eq_ofNat_of_zero_le b1.1
  obtain ⟨cn, rfl⟩ := Int.eq_ofNat_of_zero_le b2.1
  exact esafe_walk tn cn (by omega) (by omega) M m mc ms W hM
theorem EpochSafe_holds : Rows.EpochSafeSaid :=
  OpenClaim.holds_of_wide 5 Try.f5 rfl rfl rfl rfl rfl rfl rfl ⟨rfl, rfl, rfl, rfl, rfl⟩ rfl rfl rfl rfl rfl (by kernel_rfl) Try.func5 (by kernel_rfl)
    (of_decide_eq_true (by kernel_rfl)) (by unfold Func.isWrapper; rw [if_neg (of_decide_eq_false (by kernel_rfl))]; exact ⟨rfl, rfl⟩)
    (fun os started H enc _ => EpochSafe_lifted os started H enc)
#print axioms EpochSafe_holds
end Go.Proofs.Ytjokaginolpbeaa
