/- Proved: the law EpochHeld (while a thread stays pinned, an epoch is gone on by once at most; once it is out, again) returns true at every input and turns none of its arguments. No condition. -/
import Derived.Test.YtjokaginolpbeaaEpochHeldPartG
import Derived.Test.YtjokaginolpbeaaEpochHeldPartE
namespace Go.Proofs.Ytjokaginolpbeaa
open Go.ChangeShapes Go.WideShapes Go.ChangeAt Go.RowKit

set_option maxRecDepth 100000 in
set_option maxHeartbeats 20000000 in
theorem eheld_walk (bn : Nat) (hbn : bn < 256) (M : Option Addr) (m mc : Nat) (ms : List UInt8) (w : World) (hM : BytesV w M m mc ms) :
    Calls Try.prog 6 #[.int .u8 bn, .slice M m mc] w fun e w' => e = .returned (.bool true) ∧ Ext w w' := by
  have hmk := Nat.le_trans hM.le hM.cap
  simp only [maxLen] at hmk
  have hb19 : ∀ (W : World), (Instr.build 24 #[(0, .int .i64 19)]).run Try.prog W = .ok (.agg #[.int .i64 19, .int .i64 0, .int .i64 0, .int .u64 0]) W := fun _ => by kernel_rfl
  have hb3 : ∀ (W : World), (Instr.build 24 #[(0, .int .i64 3)]).run Try.prog W = .ok (.agg #[.int .i64 3, .int .i64 0, .int .i64 0, .int .u64 0]) W := fun _ => by kernel_rfl
  have hb4 : ∀ (W : World), (Instr.build 24 #[(0, .int .i64 4)]).run Try.prog W = .ok (.agg #[.int .i64 4, .int .i64 0, .int .i64 0, .int .u64 0]) W := fun _ => by kernel_rfl
  have q1 : IntKind.i64.wrap (bn : Int) = (bn : Int) := by rw [IntKind.wrap_i64]; omega
  have q2 : Int.tmod (bn : Int) 5 = (bn : Int) % 5 := by rw [Int.tmod_eq_emod_of_nonneg (by omega)]
  have q3 : IntKind.i64.wrap ((bn : Int) % 5) = (bn : Int) % 5 := by rw [IntKind.wrap_i64]; omega
  have q4 : (bn : Int) % 5 = ((bn % 5 : Nat) : Int) := by omega
  have hK : bn % 5 ≤ 4 := by omega
  generalize bn % 5 = K at *
  have hnew := fun W => ranew_yes 3 2 (by omega) (by omega) (by omega) W
  have hp0 := newS_k (t := 3) (c := 2) (by omega) (by omega) (by omega)
  have hk0 := new_wok (t := 3) (c := 2) (by omega) (by omega) (by omega)
  have hs0 : (newS 2).e = 0 := rfl
  have hz0 : ∀ i, (newS 2).P i = 0 := fun _ => rfl
  generalize newW 3 2 = X0 at *
  generalize newS 2 = S0 at *
  go_enter Try.func6, Try.ntmps6
  go_wp2_with fail
  refine (shown13_any _).mono ?_
  rintro e w1 ⟨rfl, hW⟩
  rcases (Decidable.em (m ≤ 30)).symm with h6 | h6
  · have h6' : (30 : Int) < (m : Int) := by omega
    go_wp2
    go_ret
    exact ⟨rfl, hW⟩
  have h6' : ¬ (30 : Int) < (m : Int) := by omega
  go_wp2_with fail
  refine (hnew _).mono ?_
  rintro e w_a ⟨v_, rfl, hVa, hx_⟩
  obtain ⟨aA, aq, ac, aB, ab, aC, ad, rfl⟩ := hVa.form6
  replace hW := hW.trans hx_
  clear hx_
  go_upto_region 5 with (fail)
  have hx_ : Ext w_a (w_a.alloc (.cells #[.int .i64 X0.T, .int .i64 X0.C, .slice aA aq ac, .int .u64 X0.R, .slice aB X0.n ab, .slice aC X0.n ad] 51)) := (Below.refl _ w_a).alloc (Nat.le_refl _) _
  have hba := heap_alloc_new w_a (.cells #[.int .i64 X0.T, .int .i64 X0.C, .slice aA aq ac, .int .u64 X0.R, .slice aB X0.n ab, .slice aC X0.n ad] 51)
  generalize w_a.alloc (.cells #[.int .i64 X0.T, .int .i64 X0.C, .slice aA aq ac, .int .u64 X0.R, .slice aB X0.n ab, .slice aC X0.n ad] 51) = W3 at *
  have hls := hW.size
  generalize w_a.heap.size = ga at *
  replace hVa := hVa.ext hx_
  replace hW := hW.trans hx_
  clear hx_
  have hbx : BoxW W3 ga X0 := ⟨_, hba, hVa⟩
  have hlg : ga < W3.heap.size := (Array.getElem?_eq_some_iff.1 hba).1
  clear hba hVa hnew
  go_wp2
  go_loopw [7] (fun iv wr => ∃ (j : Nat) (Xj : WldK) (S : EpS), iv = .int .i64 (j : Int) ∧ j ≤ K ∧ BoxW wr ga Xj ∧ EpK Xj 3 2 S ∧ WOk Xj ∧ S.e = j ∧ (∀ i, S.P i = 0) ∧ Ext w wr ∧ ga < wr.heap.size) (fun iv _ => K - (intOf iv).toNat)
  case atStart => exact ⟨0, X0, S0, rfl, Nat.zero_le _, hbx, hp0, hk0, hs0, hz0, hW, hlg⟩
  case round =>
    clear hp0 hk0 hW hlg hbx hs0 hz0
    obtain ⟨j, Xj, S, rfl, hj, hbx, hpj, hkj, hse, hsz, hWr, hgr⟩ := hrel
    obtain ⟨bA, bq, bc, bB, bb, bC, bd, hb0, hbV⟩ := hbx.form
    clear hbx
    rcases Nat.lt_or_ge j K with hjK | hjK
    · have hjI : (j : Int) < (K : Int) := by omega
      have hok := okP_zero (t := 3) hsz
      obtain ⟨X1, hp1, hk1, hcon⟩ := eal_adv hpj hkj (me := 1) (by omega) (by omega) 99 (by omega) (by omega)
      rw [decide_eq_true hok, show (((1 : Nat) : Int)) = 1 from rfl, show (((99 : Nat) : Int)) = 99 from rfl] at hcon
      rw [adv_ok hok] at hp1
      have hse1 : S.drain.e = j + 1 := by rw [← hse]; rfl
      have hsz1 : ∀ i, S.drain.P i = 0 := hsz
      generalize S.drain = S1 at *
      clear hok hse hsz hpj
      have e0 : wr.cell? ⟨ga, 0, none⟩ = some (.int .i64 Xj.T) := by simp [World.cell?, hb0]
      have e1 : wr.cell? ⟨ga, 1, none⟩ = some (.int .i64 Xj.C) := by simp [World.cell?, hb0]
      have e2 : wr.cell? ⟨ga, 2, none⟩ = some (.slice bA bq bc) := by simp [World.cell?, hb0]
      have e3 : wr.cell? ⟨ga, 3, none⟩ = some (.int .u64 Xj.R) := by simp [World.cell?, hb0]
      have e4 : wr.cell? ⟨ga, 4, none⟩ = some (.slice bB Xj.n bb) := by simp [World.cell?, hb0]
      have e5 : wr.cell? ⟨ga, 5, none⟩ = some (.slice bC Xj.n bd) := by simp [World.cell?, hb0]
      go_wp2_with fail
      refine (hcon _ _ _ _ hbV).mono ?_
      rintro e w7c ⟨v_, rfl, hVc, hx_⟩
      obtain ⟨cA, cq, cc, cB, cb, cC, cd, rfl⟩ := hVc.form6
      replace hgr := Nat.lt_of_lt_of_le hgr hx_.size
      clear e0 e1 e2 e3 e4 e5
      replace hb0 := heap_ext hb0 hx_
      replace hbV := hbV.ext hx_
      replace hWr := hWr.trans hx_
      clear hx_
      go_upto_region 9 with (fail)
      obtain ⟨hx_, hbc, hoc⟩ := two_boxes7 w7c (.cells #[.int .i64 X1.T, .int .i64 X1.C, .slice cA cq cc, .int .u64 X1.R, .slice cB X1.n cb, .slice cC X1.n cd] 51) (.cells #[.int .i64 0, .bool true, .int .i64 0, .int .u64 0, .slice none 0 0] 37)
      generalize (w7c.alloc (.cells #[.int .i64 X1.T, .int .i64 X1.C, .slice cA cq cc, .int .u64 X1.R, .slice cB X1.n cb, .slice cC X1.n cd] 51)).alloc (.cells #[.int .i64 0, .bool true, .int .i64 0, .int .u64 0, .slice none 0 0] 37) = W7c at *
      have hgc := hgr
      replace hgr := Nat.lt_of_lt_of_le hgr hx_.size
      generalize w7c.heap.size = gc at *
      replace hb0 := heap_ext hb0 hx_
      replace hbV := hbV.ext hx_
      replace hVc := hVc.ext hx_
      replace hWr := hWr.trans hx_
      clear hx_
      go_upto_region 11 with (fail)
      have nc : ¬ ga = gc := by omega
      have nc' : ¬ gc = ga := by omega
      clear hcon
      have f0 : W7c.cell? ⟨gc, 0, none⟩ = some (.int .i64 X1.T) := by simp [World.cell?, hbc]
      have f1 : W7c.cell? ⟨gc, 1, none⟩ = some (.int .i64 X1.C) := by simp [World.cell?, hbc]
      have f2 : W7c.cell? ⟨gc, 2, none⟩ = some (.slice cA cq cc) := by simp [World.cell?, hbc]
      have f3 : W7c.cell? ⟨gc, 3, none⟩ = some (.int .u64 X1.R) := by simp [World.cell?, hbc]
      have f4 : W7c.cell? ⟨gc, 4, none⟩ = some (.slice cB X1.n cb) := by simp [World.cell?, hbc]
      have f5 : W7c.cell? ⟨gc, 5, none⟩ = some (.slice cC X1.n cd) := by simp [World.cell?, hbc]
      have e0 : W7c.cell? ⟨ga, 0, none⟩ = some (.int .i64 Xj.T) := by simp [World.cell?, hb0]
      have ef0 : W7c.frozen? ⟨ga, 0, none⟩ = false := by simp [World.frozen?, hb0]
      have e1 : W7c.cell? ⟨ga, 1, none⟩ = some (.int .i64 Xj.C) := by simp [World.cell?, hb0]
      have ef1 : W7c.frozen? ⟨ga, 1, none⟩ = false := by simp [World.frozen?, hb0]
      have e2 : W7c.cell? ⟨ga, 2, none⟩ = some (.slice bA bq bc) := by simp [World.cell?, hb0]
      have ef2 : W7c.frozen? ⟨ga, 2, none⟩ = false := by simp [World.frozen?, hb0]
      have e3 : W7c.cell? ⟨ga, 3, none⟩ = some (.int .u64 Xj.R) := by simp [World.cell?, hb0]
      have ef3 : W7c.frozen? ⟨ga, 3, none⟩ = false := by simp [World.frozen?, hb0]
      have e4 : W7c.cell? ⟨ga, 4, none⟩ = some (.slice bB Xj.n bb) := by simp [World.cell?, hb0]
      have ef4 : W7c.frozen? ⟨ga, 4, none⟩ = false := by simp [World.frozen?, hb0]
      have e5 : W7c.cell? ⟨ga, 5, none⟩ = some (.slice bC Xj.n bd) := by simp [World.cell?, hb0]
      have ef5 : W7c.frozen? ⟨ga, 5, none⟩ = false := by simp [World.frozen?, hb0]
      go_wp2
      have hb0_ : ((((((W7c.setCell ⟨ga, 0, none⟩ (.int .i64 X1.T)).setCell ⟨ga, 1, none⟩ (.int .i64 X1.C)).setCell ⟨ga, 2, none⟩ (.slice cA cq cc)).setCell ⟨ga, 3, none⟩ (.int .u64 X1.R)).setCell ⟨ga, 4, none⟩ (.slice cB X1.n cb)).setCell ⟨ga, 5, none⟩ (.slice cC X1.n cd)).heap[ga]? = some (.cells #[.int .i64 X1.T, .int .i64 X1.C, .slice cA cq cc, .int .u64 X1.R, .slice cB X1.n cb, .slice cC X1.n cd] 51 (0, 0)) := setAll_all (vs := [.int .i64 X1.T, .int .i64 X1.C, .slice cA cq cc, .int .u64 X1.R, .slice cB X1.n cb, .slice cC X1.n cd]) hb0 rfl
      have hWs_ : Ext w ((((((W7c.setCell ⟨ga, 0, none⟩ (.int .i64 X1.T)).setCell ⟨ga, 1, none⟩ (.int .i64 X1.C)).setCell ⟨ga, 2, none⟩ (.slice cA cq cc)).setCell ⟨ga, 3, none⟩ (.int .u64 X1.R)).setCell ⟨ga, 4, none⟩ (.slice cB X1.n cb)).setCell ⟨ga, 5, none⟩ (.slice cC X1.n cd)) := setAll_ext (g := ga) (vs := [.int .i64 X1.T, .int .i64 X1.C, .slice cA cq cc, .int .u64 X1.R, .slice cB X1.n cb, .slice cC X1.n cd]) (i := 0) hWr hls
      have hk_ : ∀ g, g ≠ ga → ((((((W7c.setCell ⟨ga, 0, none⟩ (.int .i64 X1.T)).setCell ⟨ga, 1, none⟩ (.int .i64 X1.C)).setCell ⟨ga, 2, none⟩ (.slice cA cq cc)).setCell ⟨ga, 3, none⟩ (.int .u64 X1.R)).setCell ⟨ga, 4, none⟩ (.slice cB X1.n cb)).setCell ⟨ga, 5, none⟩ (.slice cC X1.n cd)).heap[g]? = W7c.heap[g]? := fun g hg => setAll_other (g := ga) (k := g) hg [.int .i64 X1.T, .int .i64 X1.C, .slice cA cq cc, .int .u64 X1.R, .slice cB X1.n cb, .slice cC X1.n cd] 0 W7c
      have hVc_ := hVc.but hk1.2.2 (But.all ga [.int .i64 X1.T, .int .i64 X1.C, .slice cA cq cc, .int .u64 X1.R, .slice cB X1.n cb, .slice cC X1.n cd] 0 W7c) hb0 rfl
      change WldV ((((((W7c.setCell ⟨ga, 0, none⟩ (.int .i64 X1.T)).setCell ⟨ga, 1, none⟩ (.int .i64 X1.C)).setCell ⟨ga, 2, none⟩ (.slice cA cq cc)).setCell ⟨ga, 3, none⟩ (.int .u64 X1.R)).setCell ⟨ga, 4, none⟩ (.slice cB X1.n cb)).setCell ⟨ga, 5, none⟩ (.slice cC X1.n cd)) _ _ at hVc_
      have hsz_ : ((((((W7c.setCell ⟨ga, 0, none⟩ (.int .i64 X1.T)).setCell ⟨ga, 1, none⟩ (.int .i64 X1.C)).setCell ⟨ga, 2, none⟩ (.slice cA cq cc)).setCell ⟨ga, 3, none⟩ (.int .u64 X1.R)).setCell ⟨ga, 4, none⟩ (.slice cB X1.n cb)).setCell ⟨ga, 5, none⟩ (.slice cC X1.n cd)).heap.size = W7c.heap.size := by simp [World.setCell]
      generalize ((((((W7c.setCell ⟨ga, 0, none⟩ (.int .i64 X1.T)).setCell ⟨ga, 1, none⟩ (.int .i64 X1.C)).setCell ⟨ga, 2, none⟩ (.slice cA cq cc)).setCell ⟨ga, 3, none⟩ (.int .u64 X1.R)).setCell ⟨ga, 4, none⟩ (.slice cB X1.n cb)).setCell ⟨ga, 5, none⟩ (.slice cC X1.n cd)) = wg at *
      go_roundw
      case rel => exact ⟨j + 1, X1, S1, by go_num, by omega, ⟨_, hb0_, hVc_⟩, hp1, hk1, hse1, hsz1, hWs_, by rw [hsz_]; exact hgr⟩
      case measure => simp [intOf]; omega
    · obtain rfl : j = K := by omega
      have hjI : ¬ (j : Int) < (j : Int) := by omega
      obtain ⟨X1, hp1, hk1, hcon⟩ := eal_pin hpj hkj (me := 0) (by omega) (by omega) 9 (by omega) (by omega)
      rw [show (((0 : Nat) : Int)) = 0 from rfl, show (((9 : Nat) : Int)) = 9 from rfl] at hcon
      have hse1 : (S.pin 0 ((S.e : Int) + 1)).e = j := hse
      have hsp1 : (S.pin 0 ((S.e : Int) + 1)).P 0 = (j : Int) + 1 := by rw [← hse]; simp [EpS.pin]
      have hsz1 : ∀ i, i ≠ 0 → (S.pin 0 ((S.e : Int) + 1)).P i = 0 := fun i hi => by simp [EpS.pin, hi]; exact hsz i
      generalize S.pin 0 ((S.e : Int) + 1) = S1 at *
      clear hse hsz hpj
      have e0 : wr.cell? ⟨ga, 0, none⟩ = some (.int .i64 Xj.T) := by simp [World.cell?, hb0]
      have e1 : wr.cell? ⟨ga, 1, none⟩ = some (.int .i64 Xj.C) := by simp [World.cell?, hb0]
      have e2 : wr.cell? ⟨ga, 2, none⟩ = some (.slice bA bq bc) := by simp [World.cell?, hb0]
      have e3 : wr.cell? ⟨ga, 3, none⟩ = some (.int .u64 Xj.R) := by simp [World.cell?, hb0]
      have e4 : wr.cell? ⟨ga, 4, none⟩ = some (.slice bB Xj.n bb) := by simp [World.cell?, hb0]
      have e5 : wr.cell? ⟨ga, 5, none⟩ = some (.slice bC Xj.n bd) := by simp [World.cell?, hb0]
      go_wp2_with fail
      refine (hcon _ _ _ _ hbV).mono ?_
      rintro e w7c ⟨v_, rfl, hVc, hx_⟩
      obtain ⟨cA, cq, cc, cB, cb, cC, cd, rfl⟩ := hVc.form6
      replace hgr := Nat.lt_of_lt_of_le hgr hx_.size
      clear e0 e1 e2 e3 e4 e5
      replace hb0 := heap_ext hb0 hx_
      replace hbV := hbV.ext hx_
      replace hWr := hWr.trans hx_
      clear hx_
      go_upto_region 13 with (fail)
      obtain ⟨hx_, hbc, hoc⟩ := two_boxes7 w7c (.cells #[.int .i64 X1.T, .int .i64 X1.C, .slice cA cq cc, .int .u64 X1.R, .slice cB X1.n cb, .slice cC X1.n cd] 51) (.cells #[.int .i64 0, .bool false, .int .i64 0, .int .u64 0, .slice none 0 0] 37)
      generalize (w7c.alloc (.cells #[.int .i64 X1.T, .int .i64 X1.C, .slice cA cq cc, .int .u64 X1.R, .slice cB X1.n cb, .slice cC X1.n cd] 51)).alloc (.cells #[.int .i64 0, .bool false, .int .i64 0, .int .u64 0, .slice none 0 0] 37) = W7c at *
      have hgc := hgr
      replace hgr := Nat.lt_of_lt_of_le hgr hx_.size
      generalize w7c.heap.size = gc at *
      replace hb0 := heap_ext hb0 hx_
      replace hbV := hbV.ext hx_
      replace hVc := hVc.ext hx_
      replace hWr := hWr.trans hx_
      clear hx_
      go_upto_region 15 with (fail)
      have nc : ¬ ga = gc := by omega
      have nc' : ¬ gc = ga := by omega
      clear hcon q1 q2 q3 q4
      have f0 : W7c.cell? ⟨gc, 0, none⟩ = some (.int .i64 X1.T) := by simp [World.cell?, hbc]
      have f1 : W7c.cell? ⟨gc, 1, none⟩ = some (.int .i64 X1.C) := by simp [World.cell?, hbc]
      have f2 : W7c.cell? ⟨gc, 2, none⟩ = some (.slice cA cq cc) := by simp [World.cell?, hbc]
      have f3 : W7c.cell? ⟨gc, 3, none⟩ = some (.int .u64 X1.R) := by simp [World.cell?, hbc]
      have f4 : W7c.cell? ⟨gc, 4, none⟩ = some (.slice cB X1.n cb) := by simp [World.cell?, hbc]
      have f5 : W7c.cell? ⟨gc, 5, none⟩ = some (.slice cC X1.n cd) := by simp [World.cell?, hbc]
      have e0 : W7c.cell? ⟨ga, 0, none⟩ = some (.int .i64 Xj.T) := by simp [World.cell?, hb0]
      have ef0 : W7c.frozen? ⟨ga, 0, none⟩ = false := by simp [World.frozen?, hb0]
      have e1 : W7c.cell? ⟨ga, 1, none⟩ = some (.int .i64 Xj.C) := by simp [World.cell?, hb0]
      have ef1 : W7c.frozen? ⟨ga, 1, none⟩ = false := by simp [World.frozen?, hb0]
      have e2 : W7c.cell? ⟨ga, 2, none⟩ = some (.slice bA bq bc) := by simp [World.cell?, hb0]
      have ef2 : W7c.frozen? ⟨ga, 2, none⟩ = false := by simp [World.frozen?, hb0]
      have e3 : W7c.cell? ⟨ga, 3, none⟩ = some (.int .u64 Xj.R) := by simp [World.cell?, hb0]
      have ef3 : W7c.frozen? ⟨ga, 3, none⟩ = false := by simp [World.frozen?, hb0]
      have e4 : W7c.cell? ⟨ga, 4, none⟩ = some (.slice bB Xj.n bb) := by simp [World.cell?, hb0]
      have ef4 : W7c.frozen? ⟨ga, 4, none⟩ = false := by simp [World.frozen?, hb0]
      have e5 : W7c.cell? ⟨ga, 5, none⟩ = some (.slice bC Xj.n bd) := by simp [World.cell?, hb0]
      have ef5 : W7c.frozen? ⟨ga, 5, none⟩ = false := by simp [World.frozen?, hb0]
      go_upto_region 16 with (fail)
      have hb0_ : ((((((W7c.setCell ⟨ga, 0, none⟩ (.int .i64 X1.T)).setCell ⟨ga, 1, none⟩ (.int .i64 X1.C)).setCell ⟨ga, 2, none⟩ (.slice cA cq cc)).setCell ⟨ga, 3, none⟩ (.int .u64 X1.R)).setCell ⟨ga, 4, none⟩ (.slice cB X1.n cb)).setCell ⟨ga, 5, none⟩ (.slice cC X1.n cd)).heap[ga]? = some (.cells #[.int .i64 X1.T, .int .i64 X1.C, .slice cA cq cc, .int .u64 X1.R, .slice cB X1.n cb, .slice cC X1.n cd] 51 (0, 0)) := setAll_all (vs := [.int .i64 X1.T, .int .i64 X1.C, .slice cA cq cc, .int .u64 X1.R, .slice cB X1.n cb, .slice cC X1.n cd]) hb0 rfl
      have hWs_ : Ext w ((((((W7c.setCell ⟨ga, 0, none⟩ (.int .i64 X1.T)).setCell ⟨ga, 1, none⟩ (.int .i64 X1.C)).setCell ⟨ga, 2, none⟩ (.slice cA cq cc)).setCell ⟨ga, 3, none⟩ (.int .u64 X1.R)).setCell ⟨ga, 4, none⟩ (.slice cB X1.n cb)).setCell ⟨ga, 5, none⟩ (.slice cC X1.n cd)) := setAll_ext (g := ga) (vs := [.int .i64 X1.T, .int .i64 X1.C, .slice cA cq cc, .int .u64 X1.R, .slice cB X1.n cb, .slice cC X1.n cd]) (i := 0) hWr hls
      have hk_ : ∀ g, g ≠ ga → ((((((W7c.setCell ⟨ga, 0, none⟩ (.int .i64 X1.T)).setCell ⟨ga, 1, none⟩ (.int .i64 X1.C)).setCell ⟨ga, 2, none⟩ (.slice cA cq cc)).setCell ⟨ga, 3, none⟩ (.int .u64 X1.R)).setCell ⟨ga, 4, none⟩ (.slice cB X1.n cb)).setCell ⟨ga, 5, none⟩ (.slice cC X1.n cd)).heap[g]? = W7c.heap[g]? := fun g hg => setAll_other (g := ga) (k := g) hg [.int .i64 X1.T, .int .i64 X1.C, .slice cA cq cc, .int .u64 X1.R, .slice cB X1.n cb, .slice cC X1.n cd] 0 W7c
      have hVc_ := hVc.but hk1.2.2 (But.all ga [.int .i64 X1.T, .int .i64 X1.C, .slice cA cq cc, .int .u64 X1.R, .slice cB X1.n cb, .slice cC X1.n cd] 0 W7c) hb0 rfl
      change WldV ((((((W7c.setCell ⟨ga, 0, none⟩ (.int .i64 X1.T)).setCell ⟨ga, 1, none⟩ (.int .i64 X1.C)).setCell ⟨ga, 2, none⟩ (.slice cA cq cc)).setCell ⟨ga, 3, none⟩ (.int .u64 X1.R)).setCell ⟨ga, 4, none⟩ (.slice cB X1.n cb)).setCell ⟨ga, 5, none⟩ (.slice cC X1.n cd)) _ _ at hVc_
      have hsz_ : ((((((W7c.setCell ⟨ga, 0, none⟩ (.int .i64 X1.T)).setCell ⟨ga, 1, none⟩ (.int .i64 X1.C)).setCell ⟨ga, 2, none⟩ (.slice cA cq cc)).setCell ⟨ga, 3, none⟩ (.int .u64 X1.R)).setCell ⟨ga, 4, none⟩ (.slice cB X1.n cb)).setCell ⟨ga, 5, none⟩ (.slice cC X1.n cd)).heap.size = W7c.heap.size := by simp [World.setCell]
      generalize ((((((W7c.setCell ⟨ga, 0, none⟩ (.int .i64 X1.T)).setCell ⟨ga, 1, none⟩ (.int .i64 X1.C)).setCell ⟨ga, 2, none⟩ (.slice cA cq cc)).setCell ⟨ga, 3, none⟩ (.int .u64 X1.R)).setCell ⟨ga, 4, none⟩ (.slice cB X1.n cb)).setCell ⟨ga, 5, none⟩ (.slice cC X1.n cd)) = wg at *
      have hlg_ : ga < wg.heap.size := by rw [hsz_]; exact hgr
      have h3 := hp1.dim.three
      have hep := hp1.ep
      rw [hse1] at hep
      clear hk_ hsz_ hgr hoc hb0 hVc hWr hbc hbV hkj f0 f1 f2 f3 f4 f5 e0 e1 e2 e3 e4 e5 ef0 ef1 ef2 ef3 ef4 ef5
      have hbx : BoxW wg ga X1 := ⟨_, hb0_, hVc_⟩
      have e0 : wg.cell? ⟨ga, 0, none⟩ = some (.int .i64 X1.T) := by simp [World.cell?, hb0_]
      have e1 : wg.cell? ⟨ga, 1, none⟩ = some (.int .i64 X1.C) := by simp [World.cell?, hb0_]
      have e2 : wg.cell? ⟨ga, 2, none⟩ = some (.slice cA cq cc) := by simp [World.cell?, hb0_]
      have e3 : wg.cell? ⟨ga, 3, none⟩ = some (.int .u64 X1.R) := by simp [World.cell?, hb0_]
      have e4 : wg.cell? ⟨ga, 4, none⟩ = some (.slice cB X1.n cb) := by simp [World.cell?, hb0_]
      have e5 : wg.cell? ⟨ga, 5, none⟩ = some (.slice cC X1.n cd) := by simp [World.cell?, hb0_]
      obtain ⟨wa, rfl, rfl, hwc⟩ := WldV.word hVc_ hk1.2.2
      have hw1 := hwc 3 (by omega)
      rw [show (((3 : Nat) : Int)) = 3 from rfl, show wa.add 3 = ⟨wa.block, wa.off + 3, none⟩ from rfl, hep] at hw1
      have h3q : (3 : Int) < (X1.ws.length : Int) := by omega
      clear hwc hep
      go_upto_region 17 with (fail)
      clear hw1 h3q e0 e1 e2 e3 e4 e5 hb0_ hVc_
      go_wp2
      go_loopw [15, 16] (fun ov iv wr => ∃ (i : Nat) (Xj : WldK) (S : EpS), ov = .int .i64 ((min i 1 : Nat) : Int) ∧ iv = .int .i64 (i : Int) ∧ i ≤ m ∧ BoxW wr ga Xj ∧ EpK Xj 3 2 S ∧ WOk Xj ∧ S.e = j + min i 1 ∧ S.P 0 = (j : Int) + 1 ∧ (∀ i, i ≠ 0 → S.P i = 0) ∧ Ext w wr ∧ ga < wr.heap.size) (fun _ iv _ => m - (intOf iv).toNat)
      case atStart => exact ⟨0, X1, S1, rfl, rfl, Nat.zero_le _, hbx, hp1, hk1, by omega, hsp1, hsz1, hWs_, hlg_⟩
      case round =>
        clear hp1 hk1 hse1 hsp1 hsz1 hWs_ hlg_ hbx
        obtain ⟨i, Xj, S, rfl, rfl, hi, hbx, hpj, hkj, hse, hsp, hsz, hWr, hgr⟩ := hrel
        obtain ⟨bA, bq, bc, bB, bb, bC, bd, hb0, hbV⟩ := hbx.form
        clear hbx
        have hokI := okP_one (S := S) (t := 3) (by omega) hsp hsz (by omega)
        rcases Nat.lt_or_ge i m with him | him
        · have hiI : (i : Int) < (m : Int) := by omega
          obtain ⟨ad, z, rfl, hcz, hzz⟩ := bytes_cell (hM.ext hWr) him
          have hy1 : IntKind.i64.wrap (z : Int) = (z : Int) := by rw [IntKind.wrap_i64]; omega
          have hy2 : Int.tmod (z : Int) 2 = (z : Int) % 2 := by rw [Int.tmod_eq_emod_of_nonneg (by omega)]
          have hy3 : IntKind.i64.wrap ((z : Int) % 2) = (z : Int) % 2 := by rw [IntKind.wrap_i64]; omega
          have hy4 : IntKind.i64.wrap (1 + (z : Int) % 2) = 1 + (z : Int) % 2 := by rw [IntKind.wrap_i64]; omega
          obtain ⟨X1, hp1, hk1, hcon⟩ := eal_adv hpj hkj (me := 1 + z % 2) (by omega) (by omega) 99 (by omega) (by omega)
          have hme : ((1 + z % 2 : Nat) : Int) = 1 + (z : Int) % 2 := by omega
          rw [hme, show (((99 : Nat) : Int)) = 99 from rfl] at hcon
          have hdec : decide (S.okP 3) = decide (i = 0) := by
            rw [decide_eq_decide, hokI]; omega
          rw [hdec] at hcon
          obtain ⟨b1, hb1⟩ : ∃ b1, b1 = decide (i = 0) := ⟨_, rfl⟩
          rw [← hb1] at hcon
          have HB1 := Lib.hid hb1
          clear hb1
          have hs1 : (S.adv 3).e = j + min (i + 1) 1 ∧ (S.adv 3).P = S.P := by
            refine ⟨?_, adv_P S 3⟩
            by_cases h0 : i = 0
            · rw [adv_ok (hokI.2 (by omega))]
              show S.e + 1 = _
              omega
            · rw [adv_no (fun h => h0 (by have := hokI.1 h; omega))]; omega
          obtain ⟨hse1, hsP⟩ := hs1
          have hsp1 : (S.adv 3).P 0 = (j : Int) + 1 := by rw [hsP]; exact hsp
          have hsz1 : ∀ i, i ≠ 0 → (S.adv 3).P i = 0 := fun i h => by rw [hsP]; exact hsz i h
          generalize S.adv 3 = S1 at *
          clear hokI hse hsp hsz hpj hsP hdec hme
          have hX : ∀ wx, Ext wr wx → wx.cell? ⟨ga, 0, none⟩ = some (.int .i64 Xj.T) ∧ wx.cell? ⟨ga, 1, none⟩ = some (.int .i64 Xj.C) ∧ wx.cell? ⟨ga, 2, none⟩ = some (.slice bA bq bc) ∧ wx.cell? ⟨ga, 3, none⟩ = some (.int .u64 Xj.R) ∧ wx.cell? ⟨ga, 4, none⟩ = some (.slice bB Xj.n bb) ∧ wx.cell? ⟨ga, 5, none⟩ = some (.slice bC Xj.n bd) ∧ wx.cell? (ad.add i) = some (.int .u8 (z : Int)) := fun wx hx =>
            ⟨hx.cell (by simp [World.cell?, hb0]), hx.cell (by simp [World.cell?, hb0]), hx.cell (by simp [World.cell?, hb0]), hx.cell (by simp [World.cell?, hb0]), hx.cell (by simp [World.cell?, hb0]), hx.cell (by simp [World.cell?, hb0]), hx.cell hcz⟩
          go_upto_region 21 with (fail)
          refine' wp_region_lates [(12, [(10, 70)]), (13, [(10, 70)])] ⟨((some 71, [], none) :: (some 72, [], none) :: (some 73, [], none) :: (some 74, [1, 2], none) :: (some 75, [3], none) :: (some 76, [4], none) :: (some 77, [5], none) :: (some 78, [6], none) :: (some 79, [], none) :: (some 80, [0, 7, 8], none) :: (some 70, [9], none) :: (some 81, [10], none) :: (some 82, [10], none) :: (some 83, [10], none) :: (some 17, [], none) :: (some 18, [], none) :: (none, [14, 11, 9, 0, 1, 2, 3, 4, 5, 6, 7, 8, 9, 10, 11, 14, 15], none) :: (none, [15, 12, 16, 0, 1, 2, 3, 4, 5, 6, 7, 8, 9, 10, 11, 12, 14, 15, 16], none) :: (some 19, [13, 17, 0, 1, 2, 3, 4, 5, 6, 7, 8, 9, 10, 11, 12, 13, 14, 15, 16, 17], none) :: []), (0 :: 0 :: 0 :: 6 :: 14 :: 30 :: 62 :: 126 :: 0 :: 511 :: 1023 :: 2047 :: 2047 :: 2047 :: 0 :: 0 :: 53247 :: 122879 :: 262143 :: []), (true :: true :: true :: true :: true :: true :: true :: true :: true :: false :: false :: false :: false :: false :: true :: true :: []), [], 0⟩ 16 137 ((0, 71) :: (1, 72) :: (2, 73) :: (3, 74) :: (4, 75) :: (5, 76) :: (6, 77) :: (7, 78) :: (8, 79) :: (9, 80) :: (10, 70) :: (11, 81) :: (12, 82) :: (13, 83) :: (14, 17) :: (15, 18) :: []) ((0, 71) :: (1, 72) :: (2, 73) :: (3, 74) :: (4, 75) :: (5, 76) :: (6, 77) :: (7, 78) :: (8, 79) :: (9, 80) :: (10, 70) :: (11, 81) :: (12, 82) :: (13, 83) :: (14, 17) :: (15, 18) :: []) (.det _ :: .det _ :: .det _ :: .det _ :: .det _ :: .det _ :: .det _ :: .det _ :: .det _ :: Good.of (fun v w => ∃ v1, v = .tuple #[v1, .agg #[.int .i64 0, .bool b1, .int .i64 0, .int .u64 0, .slice none 0 0], .bool true] ∧ WldV w v1 X1) (fun v w w' h hx => let ⟨v1, e, h1⟩ := h; ⟨v1, e, h1.ext hx⟩) :: Good.of (fun v w => ∃ v1, v = .tuple #[v1, .agg #[.int .i64 0, .bool b1, .int .i64 0, .int .u64 0, .slice none 0 0], .bool true] ∧ WldV w v1 X1) (fun v w w' h hx => let ⟨v1, e, h1⟩ := h; ⟨v1, e, h1.ext hx⟩) :: Good.of (fun v w => WldV w v X1) (fun v w w' h hx => h.ext hx) :: Good.of (fun v w => v = .agg #[.int .i64 0, .bool b1, .int .i64 0, .int .u64 0, .slice none 0 0]) (fun v w w' h hx => h) :: Good.of (fun v w => v = .bool true) (fun v w w' h hx => h) :: Good.box 51 #[.int .i64 0, .int .i64 0, .slice none 0 0, .int .u64 0, .slice none 0 0, .slice none 0 0] wr.heap.size :: Good.box 37 #[.int .i64 0, .bool false, .int .i64 0, .int .u64 0, .slice none 0 0] wr.heap.size :: []) (by kernel_rfl) (by kernel_rfl) (by kernel_rfl) rfl (by kernel_rfl) (by kernel_rfl) rfl (by kernel_rfl) (by kernel_rfl) (by kernel_rfl) rfl (fun _ _ _ _ _ h => h) ?hlate ?hone ?hend
          case hlate =>
            intro V hV
            refine ⟨?_, ?_, trivial⟩
            · intro wx hx ρ hρ hs o ho
              obtain ⟨sn10, -⟩ := hs
              rw [place_at hV (k := 10) rfl] at sn10
              rw [place_at hV (k := 12) rfl]
              obtain rfl := Option.some.inj ho
              obtain ⟨v1, e, h1⟩ := sn10
              refine ⟨.agg #[.int .i64 0, .bool b1, .int .i64 0, .int .u64 0, .slice none 0 0], fun w'' => ?_, rfl⟩
              go_simp
            · intro wx hx ρ hρ hs o ho
              obtain ⟨sn10, -⟩ := hs
              rw [place_at hV (k := 10) rfl] at sn10
              rw [place_at hV (k := 13) rfl]
              obtain rfl := Option.some.inj ho
              obtain ⟨v1, e, h1⟩ := sn10
              refine ⟨.bool true, fun w'' => ?_, rfl⟩
              go_simp
          case hone =>
            intro CS frS VS hCS ha hV
            have qs1 := slot_val (t := 1) ha rfl
            simp only [List.getElem_toArray, List.getElem_cons_succ, List.getElem_cons_zero] at qs1
            have qs6 := slot_val (t := 6) ha rfl
            simp only [List.getElem_toArray, List.getElem_cons_succ, List.getElem_cons_zero] at qs6
            have qs16 := slot_val (t := 16) ha rfl
            simp only [List.getElem_toArray, List.getElem_cons_succ, List.getElem_cons_zero] at qs16
            have HCS := Lib.hid hCS
            have HVS := Lib.hid hV
            clear ha hCS hV
            -- 0: slot 71 := Op.load 51 t6
            refine sure_det (js := []) (ts := [6]) (gd := none) (place_at HVS.out (k := 0) rfl) (by rw [HCS.out]; kernel_rfl) ?_ ?_
            · intro wx hx ρ hρ hs hf
              have hρc := hρ.const
              have hρf := hρ.func
              obtain ⟨fx6, -⟩ := hf
              rw [qs6] at fx6
              clear hs
              clear HCS HVS qs1 qs6 qs16
              refine run_plain ?_
              obtain ⟨e0, e1, e2, e3, e4, e5, e6⟩ := hX wx hx.drawn
              unfold runs
              go_simp
              exact detK.mk
            -- 1: slot 72 := Op.move t1
            refine sure_det (js := []) (ts := [1]) (gd := none) (place_at HVS.out (k := 1) rfl) (by rw [HCS.out]; kernel_rfl) ?_ ?_
            · intro wx hx ρ hρ hs hf
              have hρc := hρ.const
              have hρf := hρ.func
              obtain ⟨fx1, -⟩ := hf
              rw [qs1] at fx1
              clear hs
              clear HCS HVS qs1 qs6 qs16
              refine run_plain ?_
              refine op_move rfl fx1 ?_
              exact detK.mk
            -- 2: slot 73 := Op.move t16
            refine sure_det (js := []) (ts := [16]) (gd := none) (place_at HVS.out (k := 2) rfl) (by rw [HCS.out]; kernel_rfl) ?_ ?_
            · intro wx hx ρ hρ hs hf
              have hρc := hρ.const
              have hρf := hρ.func
              obtain ⟨fx16, -⟩ := hf
              rw [qs16] at fx16
              clear hs
              clear HCS HVS qs1 qs6 qs16
              refine run_plain ?_
              refine op_move rfl fx16 ?_
              exact detK.mk
            -- 3: slot 74 := Op.indexAddr 30 t72 t73
            refine sure_det (js := [(1, 72), (2, 73)]) (ts := []) (gd := none) (place_at HVS.out (k := 3) rfl) (by rw [HCS.out]; kernel_rfl) ?_ ?_
            · intro wx hx ρ hρ hs hf
              have hρc := hρ.const
              have hρf := hρ.func
              obtain ⟨sn1, sn2, -⟩ := hs
              rw [place_at HVS.out (k := 1) rfl] at sn1
              replace sn1 : ρ (.tmp 72) = _ := sn1
              rw [place_at HVS.out (k := 2) rfl] at sn2
              replace sn2 : ρ (.tmp 73) = _ := sn2
              clear hf
              clear HCS HVS qs1 qs6 qs16
              refine run_plain ?_
              unfold runs
              go_simp
              exact detK.mk
            -- 4: slot 75 := Op.load 5 t74
            refine sure_det (js := [(3, 74)]) (ts := []) (gd := none) (place_at HVS.out (k := 4) rfl) (by rw [HCS.out]; kernel_rfl) ?_ ?_
            · intro wx hx ρ hρ hs hf
              have hρc := hρ.const
              have hρf := hρ.func
              obtain ⟨sn3, -⟩ := hs
              rw [place_at HVS.out (k := 3) rfl] at sn3
              replace sn3 : ρ (.tmp 74) = _ := sn3
              clear hf
              clear HCS HVS qs1 qs6 qs16
              refine run_plain ?_
              obtain ⟨e0, e1, e2, e3, e4, e5, e6⟩ := hX wx hx.drawn
              unfold runs
              go_simp
              exact detK.mk
            -- 5: slot 76 := Op.convert 5 3 t75
            refine sure_det (js := [(4, 75)]) (ts := []) (gd := none) (place_at HVS.out (k := 5) rfl) (by rw [HCS.out]; kernel_rfl) ?_ ?_
            · intro wx hx ρ hρ hs hf
              have hρc := hρ.const
              have hρf := hρ.func
              obtain ⟨sn4, -⟩ := hs
              rw [place_at HVS.out (k := 4) rfl] at sn4
              replace sn4 : ρ (.tmp 75) = _ := sn4
              clear hf
              clear HCS HVS qs1 qs6 qs16
              refine run_plain ?_
              unfold runs
              go_simp
              exact detK.mk
            -- 6: slot 77 := Op.binOp BinOp.rem 3 t76 ((i64 2)) 3
            refine sure_det (js := [(5, 76)]) (ts := []) (gd := none) (place_at HVS.out (k := 6) rfl) (by rw [HCS.out]; kernel_rfl) ?_ ?_
            · intro wx hx ρ hρ hs hf
              have hρc := hρ.const
              have hρf := hρ.func
              obtain ⟨sn5, -⟩ := hs
              rw [place_at HVS.out (k := 5) rfl] at sn5
              replace sn5 : ρ (.tmp 76) = _ := sn5
              clear hf
              clear HCS HVS qs1 qs6 qs16
              refine run_plain ?_
              unfold runs
              go_simp
              exact detK.mk
            -- 7: slot 78 := Op.binOp BinOp.add 3 ((i64 1)) t77 3
            refine sure_det (js := [(6, 77)]) (ts := []) (gd := none) (place_at HVS.out (k := 7) rfl) (by rw [HCS.out]; kernel_rfl) ?_ ?_
            · intro wx hx ρ hρ hs hf
              have hρc := hρ.const
              have hρf := hρ.func
              obtain ⟨sn6, -⟩ := hs
              rw [place_at HVS.out (k := 6) rfl] at sn6
              replace sn6 : ρ (.tmp 77) = _ := sn6
              clear hf
              clear HCS HVS qs1 qs6 qs16
              refine run_plain ?_
              unfold runs
              go_simp
              exact detK.mk
            -- 8: slot 79 := Op.build 24 #[(0, (i64 19))]
            refine sure_det (js := []) (ts := []) (gd := none) (place_at HVS.out (k := 8) rfl) (by rw [HCS.out]; kernel_rfl) ?_ ?_
            · intro wx hx ρ hρ hs hf
              have hρc := hρ.const
              have hρf := hρ.func
              clear hs
              clear hf
              clear HCS HVS qs1 qs6 qs16
              refine run_plain ?_
              unfold runs
              go_simp
              exact detK.mk
            -- 9: slot 80 := Op.call { call ( 22), args := #[t71, t78, t79, (i64 99)], argTypes := #[51, 3, 24, 3] }
            refine sure_op (js := [(0, 71), (7, 78), (8, 79)]) (ts := []) (gd := none) (place_at HVS.out (k := 9) rfl) (by rw [HCS.out]; kernel_rfl) ?_ ?_
            · intro wx hx ρ hρ hs hf
              have hρc := hρ.const
              have hρf := hρ.func
              obtain ⟨sn0, sn7, sn8, -⟩ := hs
              rw [place_at HVS.out (k := 0) rfl] at sn0
              replace sn0 : ρ (.tmp 71) = _ := sn0
              rw [place_at HVS.out (k := 7) rfl] at sn7
              replace sn7 : ρ (.tmp 78) = _ := sn7
              rw [place_at HVS.out (k := 8) rfl] at sn8
              replace sn8 : ρ (.tmp 79) = _ := sn8
              clear hf
              clear HCS HVS qs1 qs6 qs16
              refine run_plain ?_
              refine op_call rfl hρ Try.call22 (map_four sn0 sn7 sn8 (hρ.const _)) ?_
              refine Calls.mono (hcon _ _ _ _ (hbV.ext hx.drawn)) ?_
              rintro e w' ⟨v1, rfl, h1, hx5⟩
              exact ⟨_, rfl, hx5, v1, rfl, h1⟩
            -- 10: slot 70 := Op.move t80
            refine sure_op (js := [(9, 80)]) (ts := []) (gd := none) (place_at HVS.out (k := 10) rfl) (by rw [HCS.out]; kernel_rfl) ?_ ?_
            · intro wx hx ρ hρ hs hf
              have hρc := hρ.const
              have hρf := hρ.func
              obtain ⟨sn9, -⟩ := hs
              rw [place_at HVS.out (k := 9) rfl] at sn9
              replace sn9 : ∃ v1, (ρ (.tmp 80)) = .tuple #[v1, .agg #[.int .i64 0, .bool b1, .int .i64 0, .int .u64 0, .slice none 0 0], .bool true] ∧ WldV wx v1 X1 := sn9
              clear hf
              clear HCS HVS qs1 qs6 qs16
              refine run_plain ?_
              refine op_move rfl rfl ?_
              exact ⟨Ext.refl _, sn9⟩
            -- 11: slot 81 := Op.extract t70 0
            refine sure_op (js := [(10, 70)]) (ts := []) (gd := none) (place_at HVS.out (k := 11) rfl) (by rw [HCS.out]; kernel_rfl) ?_ ?_
            · intro wx hx ρ hρ hs hf
              have hρc := hρ.const
              have hρf := hρ.func
              obtain ⟨sn10, -⟩ := hs
              rw [place_at HVS.out (k := 10) rfl] at sn10
              replace sn10 : ∃ v1, (ρ (.tmp 70)) = .tuple #[v1, .agg #[.int .i64 0, .bool b1, .int .i64 0, .int .u64 0, .slice none 0 0], .bool true] ∧ WldV wx v1 X1 := sn10
              clear hf
              clear HCS HVS qs1 qs6 qs16
              refine run_plain ?_
              obtain ⟨v1, e, h1⟩ := sn10
              unfold runs
              go_simp
              exact ⟨Ext.refl _, h1⟩
            -- 12: slot 82 := Op.extract t70 1
            refine sure_op (js := [(10, 70)]) (ts := []) (gd := none) (place_at HVS.out (k := 12) rfl) (by rw [HCS.out]; kernel_rfl) ?_ ?_
            · intro wx hx ρ hρ hs hf
              have hρc := hρ.const
              have hρf := hρ.func
              obtain ⟨sn10, -⟩ := hs
              rw [place_at HVS.out (k := 10) rfl] at sn10
              replace sn10 : ∃ v1, (ρ (.tmp 70)) = .tuple #[v1, .agg #[.int .i64 0, .bool b1, .int .i64 0, .int .u64 0, .slice none 0 0], .bool true] ∧ WldV wx v1 X1 := sn10
              clear hf
              clear HCS HVS qs1 qs6 qs16
              refine run_plain ?_
              obtain ⟨v1, e, h1⟩ := sn10
              unfold runs
              go_simp
              first | exact ⟨Ext.refl _, rfl⟩ | exact Ext.refl _
            -- 13: slot 83 := Op.extract t70 2
            refine sure_op (js := [(10, 70)]) (ts := []) (gd := none) (place_at HVS.out (k := 13) rfl) (by rw [HCS.out]; kernel_rfl) ?_ ?_
            · intro wx hx ρ hρ hs hf
              have hρc := hρ.const
              have hρf := hρ.func
              obtain ⟨sn10, -⟩ := hs
              rw [place_at HVS.out (k := 10) rfl] at sn10
              replace sn10 : ∃ v1, (ρ (.tmp 70)) = .tuple #[v1, .agg #[.int .i64 0, .bool b1, .int .i64 0, .int .u64 0, .slice none 0 0], .bool true] ∧ WldV wx v1 X1 := sn10
              clear hf
              clear HCS HVS qs1 qs6 qs16
              refine run_plain ?_
              obtain ⟨v1, e, h1⟩ := sn10
              unfold runs
              go_simp
              first | exact ⟨Ext.refl _, rfl⟩ | exact Ext.refl _
            -- 14: slot 17 := Op.alloc 51
            refine sure_op (js := []) (ts := []) (gd := none) (place_at HVS.out (k := 14) rfl) (by rw [HCS.out]; kernel_rfl) ?_ ?_
            · intro wx hx ρ hρ hs hf
              have hρc := hρ.const
              have hρf := hρ.func
              clear hs
              clear hf
              clear HCS HVS qs1 qs6 qs16
              refine run_plain ?_
              refine op_alloc rfl (Try.zeroValue51 _) ?_
              exact ⟨Ext.refl _ |>.alloc (Nat.le_refl _) _, wx.heap.size, rfl, hx.size, heap_alloc_new wx _⟩
            -- 15: slot 18 := Op.alloc 37
            refine sure_op (js := []) (ts := []) (gd := none) (place_at HVS.out (k := 15) rfl) (by rw [HCS.out]; kernel_rfl) ?_ ?_
            · intro wx hx ρ hρ hs hf
              have hρc := hρ.const
              have hρf := hρ.func
              clear hs
              clear hf
              clear HCS HVS qs1 qs6 qs16
              refine run_plain ?_
              refine op_alloc rfl (Try.zeroValue37 _) ?_
              exact ⟨Ext.refl _ |>.alloc (Nat.le_refl _) _, wx.heap.size, rfl, hx.size, heap_alloc_new wx _⟩
            exact trivial
          case hend =>
            intro xs wx hx hg
            have gk0 : xs 0 = _ := goods_get hg (i := 0) (j := 0) (d := 71) rfl
            have gk1 : xs 1 = _ := goods_get hg (i := 1) (j := 1) (d := 72) rfl
            have gk2 : xs 2 = _ := goods_get hg (i := 2) (j := 2) (d := 73) rfl
            have gk3 : xs 3 = _ := goods_get hg (i := 3) (j := 3) (d := 74) rfl
            have gk4 : xs 4 = _ := goods_get hg (i := 4) (j := 4) (d := 75) rfl
            have gk5 : xs 5 = _ := goods_get hg (i := 5) (j := 5) (d := 76) rfl
            have gk6 : xs 6 = _ := goods_get hg (i := 6) (j := 6) (d := 77) rfl
            have gk7 : xs 7 = _ := goods_get hg (i := 7) (j := 7) (d := 78) rfl
            have gk8 : xs 8 = _ := goods_get hg (i := 8) (j := 8) (d := 79) rfl
            have gk9 : ∃ v1, (xs 9) = .tuple #[v1, .agg #[.int .i64 0, .bool b1, .int .i64 0, .int .u64 0, .slice none 0 0], .bool true] ∧ WldV wx v1 X1 := goods_get hg (i := 9) (j := 9) (d := 80) rfl
            have gk10 : ∃ v1, (xs 10) = .tuple #[v1, .agg #[.int .i64 0, .bool b1, .int .i64 0, .int .u64 0, .slice none 0 0], .bool true] ∧ WldV wx v1 X1 := goods_get hg (i := 10) (j := 10) (d := 70) rfl
            have gk11 : WldV wx (xs 11) X1 := goods_get hg (i := 11) (j := 11) (d := 81) rfl
            have gk12 : (xs 12) = .agg #[.int .i64 0, .bool b1, .int .i64 0, .int .u64 0, .slice none 0 0] := goods_get hg (i := 12) (j := 12) (d := 82) rfl
            have gk13 : (xs 13) = .bool true := goods_get hg (i := 13) (j := 13) (d := 83) rfl
            have gk14 : boxG 51 #[.int .i64 0, .int .i64 0, .slice none 0 0, .int .u64 0, .slice none 0 0, .slice none 0 0] wr.heap.size (xs 14) wx := goods_get hg (i := 14) (j := 14) (d := 17) rfl
            have gk15 : boxG 37 #[.int .i64 0, .bool false, .int .i64 0, .int .u64 0, .slice none 0 0] wr.heap.size (xs 15) wx := goods_get hg (i := 15) (j := 15) (d := 18) rfl
            clear hg
            simp only [putAll, gk0, gk1, gk2, gk3, gk4, gk5, gk6, gk7, gk8]
            clear gk0 gk1 gk2 gk3 gk4 gk5 gk6 gk7 gk8
            generalize xs 9 = vx9 at gk9 ⊢
            generalize xs 10 = vx10 at gk10 ⊢
            generalize xs 11 = vx11 at gk11 ⊢
            generalize xs 12 = vx12 at gk12 ⊢
            generalize xs 13 = vx13 at gk13 ⊢
            generalize xs 14 = vx14 at gk14 ⊢
            generalize xs 15 = vx15 at gk15 ⊢
            clear xs
            simp only [Act.put, List.setIfInBounds_toArray, List.set_cons_zero, List.set_cons_succ, List.drop_succ_cons, List.drop_zero]
            obtain ⟨gA, rfl, hgA, hcA⟩ := gk14
            obtain ⟨gB, rfl, hgB, hcB⟩ := gk15
            have hv1 := gk11
            obtain rfl := gk12
            obtain rfl := gk13
            obtain ⟨cA, cq, cc, cB, cb, cC, cd, rfl⟩ := gk11.form6
            clear gk9 gk10 gk11
            have hne_ : gA ≠ gB := fun e => by subst e; rw [hcA] at hcB; cases hcB
            have hE2 : Ext wr (((((((((((wx.setCell ⟨gA, 0, none⟩ (.int .i64 X1.T)).setCell ⟨gA, 1, none⟩ (.int .i64 X1.C)).setCell ⟨gA, 2, none⟩ (.slice cA cq cc)).setCell ⟨gA, 3, none⟩ (.int .u64 X1.R)).setCell ⟨gA, 4, none⟩ (.slice cB X1.n cb)).setCell ⟨gA, 5, none⟩ (.slice cC X1.n cd)).setCell ⟨gB, 0, none⟩ (.int .i64 0)).setCell ⟨gB, 1, none⟩ (.bool b1)).setCell ⟨gB, 2, none⟩ (.int .i64 0)).setCell ⟨gB, 3, none⟩ (.int .u64 0)).setCell ⟨gB, 4, none⟩ (.slice none 0 0)) := setAll_ext (g := gB) (vs := [.int .i64 0, .bool b1, .int .i64 0, .int .u64 0, .slice none 0 0]) (i := 0) (setAll_ext (g := gA) (vs := [.int .i64 X1.T, .int .i64 X1.C, .slice cA cq cc, .int .u64 X1.R, .slice cB X1.n cb, .slice cC X1.n cd]) (i := 0) hx.drawn hgA) hgB
            have hbc : (((((((((((wx.setCell ⟨gA, 0, none⟩ (.int .i64 X1.T)).setCell ⟨gA, 1, none⟩ (.int .i64 X1.C)).setCell ⟨gA, 2, none⟩ (.slice cA cq cc)).setCell ⟨gA, 3, none⟩ (.int .u64 X1.R)).setCell ⟨gA, 4, none⟩ (.slice cB X1.n cb)).setCell ⟨gA, 5, none⟩ (.slice cC X1.n cd)).setCell ⟨gB, 0, none⟩ (.int .i64 0)).setCell ⟨gB, 1, none⟩ (.bool b1)).setCell ⟨gB, 2, none⟩ (.int .i64 0)).setCell ⟨gB, 3, none⟩ (.int .u64 0)).setCell ⟨gB, 4, none⟩ (.slice none 0 0)).heap[gA]? = some (.cells #[.int .i64 X1.T, .int .i64 X1.C, .slice cA cq cc, .int .u64 X1.R, .slice cB X1.n cb, .slice cC X1.n cd] 51 (0, 0)) := (setAll_other (g := gB) hne_ [.int .i64 0, .bool b1, .int .i64 0, .int .u64 0, .slice none 0 0] 0 (setAll gA 0 [.int .i64 X1.T, .int .i64 X1.C, .slice cA cq cc, .int .u64 X1.R, .slice cB X1.n cb, .slice cC X1.n cd] wx)).trans (setAll_all (vs := [.int .i64 X1.T, .int .i64 X1.C, .slice cA cq cc, .int .u64 X1.R, .slice cB X1.n cb, .slice cC X1.n cd]) hcA rfl)
            have hBm : (setAll gA 0 [.int .i64 X1.T, .int .i64 X1.C, .slice cA cq cc, .int .u64 X1.R, .slice cB X1.n cb, .slice cC X1.n cd] wx).heap[gB]? = _ := (setAll_other (g := gA) (Ne.symm hne_) [.int .i64 X1.T, .int .i64 X1.C, .slice cA cq cc, .int .u64 X1.R, .slice cB X1.n cb, .slice cC X1.n cd] 0 wx).trans hcB
            have hoc : (((((((((((wx.setCell ⟨gA, 0, none⟩ (.int .i64 X1.T)).setCell ⟨gA, 1, none⟩ (.int .i64 X1.C)).setCell ⟨gA, 2, none⟩ (.slice cA cq cc)).setCell ⟨gA, 3, none⟩ (.int .u64 X1.R)).setCell ⟨gA, 4, none⟩ (.slice cB X1.n cb)).setCell ⟨gA, 5, none⟩ (.slice cC X1.n cd)).setCell ⟨gB, 0, none⟩ (.int .i64 0)).setCell ⟨gB, 1, none⟩ (.bool b1)).setCell ⟨gB, 2, none⟩ (.int .i64 0)).setCell ⟨gB, 3, none⟩ (.int .u64 0)).setCell ⟨gB, 4, none⟩ (.slice none 0 0)).heap[gB]? = some (.cells #[.int .i64 0, .bool b1, .int .i64 0, .int .u64 0, .slice none 0 0] 37 (0, 0)) := setAll_all (vs := [.int .i64 0, .bool b1, .int .i64 0, .int .u64 0, .slice none 0 0]) hBm rfl
            have hVc := (hv1.but hk1.2.2 (But.all gA [.int .i64 X1.T, .int .i64 X1.C, .slice cA cq cc, .int .u64 X1.R, .slice cB X1.n cb, .slice cC X1.n cd] 0 wx) hcA rfl).but hk1.2.2 (But.all gB [.int .i64 0, .bool b1, .int .i64 0, .int .u64 0, .slice none 0 0] 0 _) hBm rfl
            change WldV (((((((((((wx.setCell ⟨gA, 0, none⟩ (.int .i64 X1.T)).setCell ⟨gA, 1, none⟩ (.int .i64 X1.C)).setCell ⟨gA, 2, none⟩ (.slice cA cq cc)).setCell ⟨gA, 3, none⟩ (.int .u64 X1.R)).setCell ⟨gA, 4, none⟩ (.slice cB X1.n cb)).setCell ⟨gA, 5, none⟩ (.slice cC X1.n cd)).setCell ⟨gB, 0, none⟩ (.int .i64 0)).setCell ⟨gB, 1, none⟩ (.bool b1)).setCell ⟨gB, 2, none⟩ (.int .i64 0)).setCell ⟨gB, 3, none⟩ (.int .u64 0)).setCell ⟨gB, 4, none⟩ (.slice none 0 0)) _ _ at hVc
            have y0 : wx.cell? ⟨gA, 0, none⟩ = some (.int .i64 0) := by simp [World.cell?, hcA]
            have yf0 : wx.frozen? ⟨gA, 0, none⟩ = false := by simp [World.frozen?, hcA]
            have y1 : wx.cell? ⟨gA, 1, none⟩ = some (.int .i64 0) := by simp [World.cell?, hcA]
            have yf1 : wx.frozen? ⟨gA, 1, none⟩ = false := by simp [World.frozen?, hcA]
            have y2 : wx.cell? ⟨gA, 2, none⟩ = some (.slice none 0 0) := by simp [World.cell?, hcA]
            have yf2 : wx.frozen? ⟨gA, 2, none⟩ = false := by simp [World.frozen?, hcA]
            have y3 : wx.cell? ⟨gA, 3, none⟩ = some (.int .u64 0) := by simp [World.cell?, hcA]
            have yf3 : wx.frozen? ⟨gA, 3, none⟩ = false := by simp [World.frozen?, hcA]
            have y4 : wx.cell? ⟨gA, 4, none⟩ = some (.slice none 0 0) := by simp [World.cell?, hcA]
            have yf4 : wx.frozen? ⟨gA, 4, none⟩ = false := by simp [World.frozen?, hcA]
            have y5 : wx.cell? ⟨gA, 5, none⟩ = some (.slice none 0 0) := by simp [World.cell?, hcA]
            have yf5 : wx.frozen? ⟨gA, 5, none⟩ = false := by simp [World.frozen?, hcA]
            have u0 : wx.cell? ⟨gB, 0, none⟩ = some (.int .i64 0) := by simp [World.cell?, hcB]
            have uf0 : wx.frozen? ⟨gB, 0, none⟩ = false := by simp [World.frozen?, hcB]
            have u1 : wx.cell? ⟨gB, 1, none⟩ = some (.bool false) := by simp [World.cell?, hcB]
            have uf1 : wx.frozen? ⟨gB, 1, none⟩ = false := by simp [World.frozen?, hcB]
            have u2 : wx.cell? ⟨gB, 2, none⟩ = some (.int .i64 0) := by simp [World.cell?, hcB]
            have uf2 : wx.frozen? ⟨gB, 2, none⟩ = false := by simp [World.frozen?, hcB]
            have u3 : wx.cell? ⟨gB, 3, none⟩ = some (.int .u64 0) := by simp [World.cell?, hcB]
            have uf3 : wx.frozen? ⟨gB, 3, none⟩ = false := by simp [World.frozen?, hcB]
            have u4 : wx.cell? ⟨gB, 4, none⟩ = some (.slice none 0 0) := by simp [World.cell?, hcB]
            have uf4 : wx.frozen? ⟨gB, 4, none⟩ = false := by simp [World.frozen?, hcB]
            go_upto_region 22 with (fail)
            generalize (((((((((((wx.setCell ⟨gA, 0, none⟩ (.int .i64 X1.T)).setCell ⟨gA, 1, none⟩ (.int .i64 X1.C)).setCell ⟨gA, 2, none⟩ (.slice cA cq cc)).setCell ⟨gA, 3, none⟩ (.int .u64 X1.R)).setCell ⟨gA, 4, none⟩ (.slice cB X1.n cb)).setCell ⟨gA, 5, none⟩ (.slice cC X1.n cd)).setCell ⟨gB, 0, none⟩ (.int .i64 0)).setCell ⟨gB, 1, none⟩ (.bool b1)).setCell ⟨gB, 2, none⟩ (.int .i64 0)).setCell ⟨gB, 3, none⟩ (.int .u64 0)).setCell ⟨gB, 4, none⟩ (.slice none 0 0)) = wf at *
            clear y0 yf0 y1 yf1 y2 yf2 y3 yf3 y4 yf4 y5 yf5 u0 uf0 u1 uf1 u2 uf2 u3 uf3 u4 uf4 hBm hcA hcB hv1 hx
            have nA : gA ≠ ga := by omega
            have nA' : ga ≠ gA := by omega
            have nB : gB ≠ ga := by omega
            replace hgr := Nat.lt_of_lt_of_le hgr hE2.size
            replace hb0 := heap_ext hb0 hE2
            replace hbV := hbV.ext hE2
            replace hWr := hWr.trans hE2
            clear hE2
            clear hcon hX hcz
            go_upto_region 24 with (fail)
            have f0 : wf.cell? ⟨gA, 0, none⟩ = some (.int .i64 X1.T) := by simp [World.cell?, hbc]
            have f1 : wf.cell? ⟨gA, 1, none⟩ = some (.int .i64 X1.C) := by simp [World.cell?, hbc]
            have f2 : wf.cell? ⟨gA, 2, none⟩ = some (.slice cA cq cc) := by simp [World.cell?, hbc]
            have f3 : wf.cell? ⟨gA, 3, none⟩ = some (.int .u64 X1.R) := by simp [World.cell?, hbc]
            have f4 : wf.cell? ⟨gA, 4, none⟩ = some (.slice cB X1.n cb) := by simp [World.cell?, hbc]
            have f5 : wf.cell? ⟨gA, 5, none⟩ = some (.slice cC X1.n cd) := by simp [World.cell?, hbc]
            have e0 : wf.cell? ⟨ga, 0, none⟩ = some (.int .i64 Xj.T) := by simp [World.cell?, hb0]
            have ef0 : wf.frozen? ⟨ga, 0, none⟩ = false := by simp [World.frozen?, hb0]
            have e1 : wf.cell? ⟨ga, 1, none⟩ = some (.int .i64 Xj.C) := by simp [World.cell?, hb0]
            have ef1 : wf.frozen? ⟨ga, 1, none⟩ = false := by simp [World.frozen?, hb0]
            have e2 : wf.cell? ⟨ga, 2, none⟩ = some (.slice bA bq bc) := by simp [World.cell?, hb0]
            have ef2 : wf.frozen? ⟨ga, 2, none⟩ = false := by simp [World.frozen?, hb0]
            have e3 : wf.cell? ⟨ga, 3, none⟩ = some (.int .u64 Xj.R) := by simp [World.cell?, hb0]
            have ef3 : wf.frozen? ⟨ga, 3, none⟩ = false := by simp [World.frozen?, hb0]
            have e4 : wf.cell? ⟨ga, 4, none⟩ = some (.slice bB Xj.n bb) := by simp [World.cell?, hb0]
            have ef4 : wf.frozen? ⟨ga, 4, none⟩ = false := by simp [World.frozen?, hb0]
            have e5 : wf.cell? ⟨ga, 5, none⟩ = some (.slice bC Xj.n bd) := by simp [World.cell?, hb0]
            have ef5 : wf.frozen? ⟨ga, 5, none⟩ = false := by simp [World.frozen?, hb0]
            go_upto_region 25 with (fail)
            have hb0_ : ((((((wf.setCell ⟨ga, 0, none⟩ (.int .i64 X1.T)).setCell ⟨ga, 1, none⟩ (.int .i64 X1.C)).setCell ⟨ga, 2, none⟩ (.slice cA cq cc)).setCell ⟨ga, 3, none⟩ (.int .u64 X1.R)).setCell ⟨ga, 4, none⟩ (.slice cB X1.n cb)).setCell ⟨ga, 5, none⟩ (.slice cC X1.n cd)).heap[ga]? = some (.cells #[.int .i64 X1.T, .int .i64 X1.C, .slice cA cq cc, .int .u64 X1.R, .slice cB X1.n cb, .slice cC X1.n cd] 51 (0, 0)) := setAll_all (vs := [.int .i64 X1.T, .int .i64 X1.C, .slice cA cq cc, .int .u64 X1.R, .slice cB X1.n cb, .slice cC X1.n cd]) hb0 rfl
            have hWs_ : Ext w ((((((wf.setCell ⟨ga, 0, none⟩ (.int .i64 X1.T)).setCell ⟨ga, 1, none⟩ (.int .i64 X1.C)).setCell ⟨ga, 2, none⟩ (.slice cA cq cc)).setCell ⟨ga, 3, none⟩ (.int .u64 X1.R)).setCell ⟨ga, 4, none⟩ (.slice cB X1.n cb)).setCell ⟨ga, 5, none⟩ (.slice cC X1.n cd)) := setAll_ext (g := ga) (vs := [.int .i64 X1.T, .int .i64 X1.C, .slice cA cq cc, .int .u64 X1.R, .slice cB X1.n cb, .slice cC X1.n cd]) (i := 0) hWr hls
            have hk_ : ∀ g, g ≠ ga → ((((((wf.setCell ⟨ga, 0, none⟩ (.int .i64 X1.T)).setCell ⟨ga, 1, none⟩ (.int .i64 X1.C)).setCell ⟨ga, 2, none⟩ (.slice cA cq cc)).setCell ⟨ga, 3, none⟩ (.int .u64 X1.R)).setCell ⟨ga, 4, none⟩ (.slice cB X1.n cb)).setCell ⟨ga, 5, none⟩ (.slice cC X1.n cd)).heap[g]? = wf.heap[g]? := fun g hg => setAll_other (g := ga) (k := g) hg [.int .i64 X1.T, .int .i64 X1.C, .slice cA cq cc, .int .u64 X1.R, .slice cB X1.n cb, .slice cC X1.n cd] 0 wf
            have hoc_ := (hk_ gB nB).trans hoc
            have hVc_ := hVc.but hk1.2.2 (But.all ga [.int .i64 X1.T, .int .i64 X1.C, .slice cA cq cc, .int .u64 X1.R, .slice cB X1.n cb, .slice cC X1.n cd] 0 wf) hb0 rfl
            change WldV ((((((wf.setCell ⟨ga, 0, none⟩ (.int .i64 X1.T)).setCell ⟨ga, 1, none⟩ (.int .i64 X1.C)).setCell ⟨ga, 2, none⟩ (.slice cA cq cc)).setCell ⟨ga, 3, none⟩ (.int .u64 X1.R)).setCell ⟨ga, 4, none⟩ (.slice cB X1.n cb)).setCell ⟨ga, 5, none⟩ (.slice cC X1.n cd)) _ _ at hVc_
            have hsz_ : ((((((wf.setCell ⟨ga, 0, none⟩ (.int .i64 X1.T)).setCell ⟨ga, 1, none⟩ (.int .i64 X1.C)).setCell ⟨ga, 2, none⟩ (.slice cA cq cc)).setCell ⟨ga, 3, none⟩ (.int .u64 X1.R)).setCell ⟨ga, 4, none⟩ (.slice cB X1.n cb)).setCell ⟨ga, 5, none⟩ (.slice cC X1.n cd)).heap.size = wf.heap.size := by simp [World.setCell]
            have hlg_ : ga < ((((((wf.setCell ⟨ga, 0, none⟩ (.int .i64 X1.T)).setCell ⟨ga, 1, none⟩ (.int .i64 X1.C)).setCell ⟨ga, 2, none⟩ (.slice cA cq cc)).setCell ⟨ga, 3, none⟩ (.int .u64 X1.R)).setCell ⟨ga, 4, none⟩ (.slice cB X1.n cb)).setCell ⟨ga, 5, none⟩ (.slice cC X1.n cd)).heap.size := by rw [hsz_]; exact hgr
            have h3 := hp1.dim.three
            have hep := hp1.ep
            rw [hse1] at hep
            clear hk_ hsz_ hgr hoc hb0 hVc hWr hbc hbV hkj f0 f1 f2 f3 f4 f5 e0 e1 e2 e3 e4 e5 ef0 ef1 ef2 ef3 ef4 ef5
            generalize ((((((wf.setCell ⟨ga, 0, none⟩ (.int .i64 X1.T)).setCell ⟨ga, 1, none⟩ (.int .i64 X1.C)).setCell ⟨ga, 2, none⟩ (.slice cA cq cc)).setCell ⟨ga, 3, none⟩ (.int .u64 X1.R)).setCell ⟨ga, 4, none⟩ (.slice cB X1.n cb)).setCell ⟨ga, 5, none⟩ (.slice cC X1.n cd)) = wg at *
            have e0 : wg.cell? ⟨ga, 0, none⟩ = some (.int .i64 X1.T) := by simp [World.cell?, hb0_]
            have e1 : wg.cell? ⟨ga, 1, none⟩ = some (.int .i64 X1.C) := by simp [World.cell?, hb0_]
            have e2 : wg.cell? ⟨ga, 2, none⟩ = some (.slice cA cq cc) := by simp [World.cell?, hb0_]
            have e3 : wg.cell? ⟨ga, 3, none⟩ = some (.int .u64 X1.R) := by simp [World.cell?, hb0_]
            have e4 : wg.cell? ⟨ga, 4, none⟩ = some (.slice cB X1.n cb) := by simp [World.cell?, hb0_]
            have e5 : wg.cell? ⟨ga, 5, none⟩ = some (.slice cC X1.n cd) := by simp [World.cell?, hb0_]
            have r0 : wg.cell? ⟨gB, 0, none⟩ = some (.int .i64 0) := by simp [World.cell?, hoc_]
            have r1 : wg.cell? ⟨gB, 1, none⟩ = some (.bool b1) := by simp [World.cell?, hoc_]
            have r2 : wg.cell? ⟨gB, 2, none⟩ = some (.int .i64 0) := by simp [World.cell?, hoc_]
            have r3 : wg.cell? ⟨gB, 3, none⟩ = some (.int .u64 0) := by simp [World.cell?, hoc_]
            have r4 : wg.cell? ⟨gB, 4, none⟩ = some (.slice none 0 0) := by simp [World.cell?, hoc_]
            obtain ⟨wa, rfl, rfl, hwc⟩ := WldV.word hVc_ hk1.2.2
            have hw1 := hwc 3 (by omega)
            rw [show (((3 : Nat) : Int)) = 3 from rfl, show wa.add 3 = ⟨wa.block, wa.off + 3, none⟩ from rfl, hep] at hw1
            have h3q : (3 : Int) < (X1.ws.length : Int) := by omega
            clear hwc hep
            rcases Nat.eq_zero_or_pos i with h0 | h0
            · subst h0
              have hb2 : b1 = true := by rw [HB1.out]; rfl
              subst hb2
              have e1 : ((j + min (0 + 1) 1 : Nat) : Int) = (j : Int) + 1 := by omega
              rw [e1] at hw1
              have hwu : IntKind.u64.wrap ((j : Int) + 1) = (j : Int) + 1 := by rw [IntKind.wrap_u64]; omega
              clear e1
              have hm0 : ((min 0 1 : Nat) : Int) = 0 := rfl
              rw [hm0]
              go_wp2
              go_roundw
              case rel => exact ⟨0 + 1, X1, S1, by go_num, by go_num, by omega, ⟨_, hb0_, hVc_⟩, hp1, hk1, hse1, hsp1, hsz1, hWs_, hlg_⟩
              case measure => simp [intOf]; omega
            · have hb2 : b1 = false := by rw [HB1.out]; exact decide_eq_false (by omega)
              subst hb2
              have e1 : ((j + min (i + 1) 1 : Nat) : Int) = (j : Int) + 1 := by omega
              rw [e1] at hw1
              have hwu : IntKind.u64.wrap ((j : Int) + 1) = (j : Int) + 1 := by rw [IntKind.wrap_u64]; omega
              clear e1
              have hm0 : ((min i 1 : Nat) : Int) = 1 := by omega
              rw [hm0]
              go_wp2
              go_roundw
              case rel => exact ⟨i + 1, X1, S1, by rw [show min (i + 1) 1 = 1 by omega]; rfl, by go_num, by omega, ⟨_, hb0_, hVc_⟩, hp1, hk1, hse1, hsp1, hsz1, hWs_, hlg_⟩
              case measure => simp [intOf]; omega
        · obtain rfl : i = m := by omega
          have hiI : ¬ (i : Int) < (i : Int) := by omega
          obtain ⟨X1, hp1, hk1, hcon⟩ := eal_unpin hpj hkj (me := 0) (by omega) 9 (by omega) (by omega)
          rw [show (((0 : Nat) : Int)) = 0 from rfl, show (((9 : Nat) : Int)) = 9 from rfl] at hcon
          have hsz1 : ∀ i, (S.pin 0 0).P i = 0 := fun i => by
            by_cases h : i = 0
            · simp [EpS.pin, h]
            · simp [EpS.pin, h]; exact hsz i h
          have hse1 : (S.pin 0 0).e = S.e := rfl
          have hok := okP_zero (t := 3) hsz1
          obtain ⟨X2, hp2, hk2, hcon2⟩ := eal_adv hp1 hk1 (me := 1) (by omega) (by omega) 99 (by omega) (by omega)
          rw [decide_eq_true hok, show (((1 : Nat) : Int)) = 1 from rfl, show (((99 : Nat) : Int)) = 99 from rfl] at hcon2
          clear hok hse1 hsz1 hokI hse hsp hsz hpj
          have e0 : wr.cell? ⟨ga, 0, none⟩ = some (.int .i64 Xj.T) := by simp [World.cell?, hb0]
          have e1 : wr.cell? ⟨ga, 1, none⟩ = some (.int .i64 Xj.C) := by simp [World.cell?, hb0]
          have e2 : wr.cell? ⟨ga, 2, none⟩ = some (.slice bA bq bc) := by simp [World.cell?, hb0]
          have e3 : wr.cell? ⟨ga, 3, none⟩ = some (.int .u64 Xj.R) := by simp [World.cell?, hb0]
          have e4 : wr.cell? ⟨ga, 4, none⟩ = some (.slice bB Xj.n bb) := by simp [World.cell?, hb0]
          have e5 : wr.cell? ⟨ga, 5, none⟩ = some (.slice bC Xj.n bd) := by simp [World.cell?, hb0]
          go_wp2_with fail
          refine (hcon _ _ _ _ hbV).mono ?_
          rintro e w7c ⟨v_, rfl, hVc, hx_⟩
          obtain ⟨cA, cq, cc, cB, cb, cC, cd, rfl⟩ := hVc.form6
          replace hgr := Nat.lt_of_lt_of_le hgr hx_.size
          clear e0 e1 e2 e3 e4 e5
          replace hb0 := heap_ext hb0 hx_
          replace hbV := hbV.ext hx_
          replace hWr := hWr.trans hx_
          clear hx_
          go_upto_region 30 with (fail)
          obtain ⟨hx_, hbc, hoc⟩ := two_boxes7 w7c (.cells #[.int .i64 X1.T, .int .i64 X1.C, .slice cA cq cc, .int .u64 X1.R, .slice cB X1.n cb, .slice cC X1.n cd] 51) (.cells #[.int .i64 0, .bool false, .int .i64 0, .int .u64 0, .slice none 0 0] 37)
          generalize (w7c.alloc (.cells #[.int .i64 X1.T, .int .i64 X1.C, .slice cA cq cc, .int .u64 X1.R, .slice cB X1.n cb, .slice cC X1.n cd] 51)).alloc (.cells #[.int .i64 0, .bool false, .int .i64 0, .int .u64 0, .slice none 0 0] 37) = W7c at *
          have hgc := hgr
          replace hgr := Nat.lt_of_lt_of_le hgr hx_.size
          generalize w7c.heap.size = gc at *
          replace hb0 := heap_ext hb0 hx_
          replace hbV := hbV.ext hx_
          replace hVc := hVc.ext hx_
          replace hWr := hWr.trans hx_
          clear hx_
          have e0 : W7c.cell? ⟨gc, 0, none⟩ = some (.int .i64 X1.T) := by simp [World.cell?, hbc]
          have e1 : W7c.cell? ⟨gc, 1, none⟩ = some (.int .i64 X1.C) := by simp [World.cell?, hbc]
          have e2 : W7c.cell? ⟨gc, 2, none⟩ = some (.slice cA cq cc) := by simp [World.cell?, hbc]
          have e3 : W7c.cell? ⟨gc, 3, none⟩ = some (.int .u64 X1.R) := by simp [World.cell?, hbc]
          have e4 : W7c.cell? ⟨gc, 4, none⟩ = some (.slice cB X1.n cb) := by simp [World.cell?, hbc]
          have e5 : W7c.cell? ⟨gc, 5, none⟩ = some (.slice cC X1.n cd) := by simp [World.cell?, hbc]
          go_wp2_with fail
          refine (hcon2 _ _ _ _ hVc).mono ?_
          rintro e w7d ⟨v_, rfl, hVd, hx_⟩
          obtain ⟨dA, dq, dc, dB, db, dC, dd, rfl⟩ := hVd.form6
          replace hgr := Nat.lt_of_lt_of_le hgr hx_.size
          clear e0 e1 e2 e3 e4 e5
          replace hb0 := heap_ext hb0 hx_
          replace hbc := heap_ext hbc hx_
          replace hoc := heap_ext hoc hx_
          replace hbV := hbV.ext hx_
          replace hVc := hVc.ext hx_
          replace hWr := hWr.trans hx_
          clear hx_
          go_upto_region 31 with (fail)
          obtain ⟨hx_, hbd, hod⟩ := two_boxes7 w7d (.cells #[.int .i64 X2.T, .int .i64 X2.C, .slice dA dq dc, .int .u64 X2.R, .slice dB X2.n db, .slice dC X2.n dd] 51) (.cells #[.int .i64 0, .bool true, .int .i64 0, .int .u64 0, .slice none 0 0] 37)
          generalize (w7d.alloc (.cells #[.int .i64 X2.T, .int .i64 X2.C, .slice dA dq dc, .int .u64 X2.R, .slice dB X2.n db, .slice dC X2.n dd] 51)).alloc (.cells #[.int .i64 0, .bool true, .int .i64 0, .int .u64 0, .slice none 0 0] 37) = W7d at *
          have hgd := hgr
          replace hgr := Nat.lt_of_lt_of_le hgr hx_.size
          generalize w7d.heap.size = gd at *
          replace hb0 := heap_ext hb0 hx_
          replace hbc := heap_ext hbc hx_
          replace hoc := heap_ext hoc hx_
          replace hbV := hbV.ext hx_
          replace hVc := hVc.ext hx_
          replace hVd := hVd.ext hx_
          replace hWr := hWr.trans hx_
          clear hx_
          have r0 : W7d.cell? ⟨gd + 1, 0, none⟩ = some (.int .i64 0) := by simp [World.cell?, hod]
          have r1 : W7d.cell? ⟨gd + 1, 1, none⟩ = some (.bool true) := by simp [World.cell?, hod]
          have r2 : W7d.cell? ⟨gd + 1, 2, none⟩ = some (.int .i64 0) := by simp [World.cell?, hod]
          have r3 : W7d.cell? ⟨gd + 1, 3, none⟩ = some (.int .u64 0) := by simp [World.cell?, hod]
          have r4 : W7d.cell? ⟨gd + 1, 4, none⟩ = some (.slice none 0 0) := by simp [World.cell?, hod]
          clear hcon hcon2 hM
          rcases Nat.eq_zero_or_pos i with h0 | h0
          · subst h0
            have hm0 : ((min 0 1 : Nat) : Int) = 0 := rfl
            have hmm : min ((0 : Nat) : Int) 1 = 0 := by omega
            rw [hm0]
            go_wp2
            go_ret
            exact ⟨rfl, hWr⟩
          · rcases (Decidable.em (1 < i)) with h1 | h1
            · have h1I : (1 : Int) < (i : Int) := by omega
              have h1N : ¬ (i : Int) ≤ 1 := by omega
              have hm0 : ((min i 1 : Nat) : Int) = 1 := by omega
              have hmm : min (i : Int) 1 = 1 := by omega
              rw [hm0]
              go_wp2
              go_ret
              exact ⟨rfl, hWr⟩
            · obtain rfl : i = 1 := by omega
              have hm0 : ((min 1 1 : Nat) : Int) = 1 := rfl
              rw [hm0]
              clear hiI
              have hiI : ¬ ((1 : Nat) : Int) < ((1 : Nat) : Int) := by omega
              go_wp2
              go_ret
              exact ⟨rfl, hWr⟩
set_option maxRecDepth 100000 in
theorem EpochHeld_lifted (os : Os) (started : os.Started) (H : Type) (enc : TypeId × Value → H) :
    ReturnsInHanded {} Try.checked os 6 .any (Rows.epochHeldSpec.pre6 enc Try.prog Try.f6 Rows.epochHeldRow.domain false) (Rows.epochHeldSpec.post enc Try.prog Try.f6 false true false false) := by
  refine law_row os started H enc Rows.epochHeldSpec rfl (fun ds h => by
    match ds, h with
    | [_, _], _ => rfl) (by kernel_rfl) Try.func6 rfl
    (by rw [Try.params6]; intro t ht; simp at ht; rcases ht with rfl | rfl <;> exact ⟨by kernel_rfl, of_decide_eq_true (by kernel_rfl)⟩)
    (ChangeSpec.witness6 (enc := enc) (C := Try.checked) false ⟨#[], #[.int .u8 0, .slice none 0 0], []⟩ 8 (by kernel_rfl) (by kernel_rfl) (by kernel_rfl) (by kernel_rfl)) ?_
  intro W base args ds ps hval hA hlt
  rw [Try.params6] at hA hval
  obtain ⟨v0, v1, d0, d1, p0, p1, rfl, rfl, rfl, h0, h1⟩ := trodAll_two hA
  obtain ⟨t, rfl, rfl, rfl, w1⟩ := open_int Try.underlying5 (hval 0 _ v0 rfl rfl) h0
  obtain ⟨M, m, mc, ms, rfl, hM⟩ := open_bytes1 (hval 1 _ v1 rfl rfl) h1
  have b1 := wf_u8 w1
  obtain ⟨tn, rfl⟩ := Int.eq_ofNat_of_zero_le b1.1
  exact eheld_walk tn (by omega) M m mc ms W hM
theorem EpochHeld_holds : Rows.EpochHeldSaid :=
  OpenClaim.holds_of_wide 6 Try.f6 rfl rfl rfl rfl rfl rfl rfl ⟨rfl, rfl, rfl, rfl, rfl⟩ rfl rfl rfl rfl rfl (by kernel_rfl) Try.func6 (by kernel_rfl)
    (of_decide_eq_true (by kernel_rfl)) (by unfold Func.isWrapper; rw [if_neg (of_decide_eq_false (by kernel_rfl))]; exact ⟨rfl, rfl⟩)
    (fun os started H enc _ => EpochHeld_lifted os started H enc)
#print axioms EpochHeld_holds
end Go.Proofs.Ytjokaginolpbeaa
