/- Proved: the law EpochBack (alone, and nobody pinned, three advances give back all that was retired) returns true at every input and turns none of its arguments. No condition. -/
import Derived.Test.YtjokaginolpbeaaEpochBackPartG
import Derived.Test.YtjokaginolpbeaaEpochBackPartE
namespace Go.Proofs.Ytjokaginolpbeaa
open Go.ChangeShapes Go.WideShapes Go.ChangeAt Go.RowKit

theorem up_cons {r n : Nat} (h : 0 < n) : upFrom r n = (r : Int) :: upFrom (r + 1) (n - 1) := by
  obtain ⟨m, rfl⟩ : ∃ m, n = m + 1 := ⟨n - 1, by omega⟩
  simp [upFrom]
set_option maxRecDepth 100000 in
set_option maxHeartbeats 20000000 in
theorem eback_walk (cn : Nat) (hcn : cn < 256) (M : Option Addr) (m mc : Nat) (ms : List UInt8) (w : World) (hM : BytesV w M m mc ms) :
    Calls Try.prog 7 #[.int .u8 cn, .slice M m mc] w fun e w' => e = .returned (.bool true) ∧ Ext w w' := by
  have hmk := Nat.le_trans hM.le hM.cap
  simp only [maxLen] at hmk
  have hb19 : ∀ (W : World), (Instr.build 24 #[(0, .int .i64 19)]).run Try.prog W = .ok (.agg #[.int .i64 19, .int .i64 0, .int .i64 0, .int .u64 0]) W := fun _ => by kernel_rfl
  have hb6 : ∀ (W : World), (Instr.build 24 #[(0, .int .i64 6)]).run Try.prog W = .ok (.agg #[.int .i64 6, .int .i64 0, .int .i64 0, .int .u64 0]) W := fun _ => by kernel_rfl
  have hb5 : ∀ (W : World) (x : Int), (Instr.build 24 #[(0, .int .i64 5), (1, .int .i64 x)]).run Try.prog W = .ok (.agg #[.int .i64 5, .int .i64 x, .int .i64 0, .int .u64 0]) W := fun _ _ => by kernel_rfl
  have q1 : IntKind.i64.wrap (cn : Int) = (cn : Int) := by rw [IntKind.wrap_i64]; omega
  have q2 : Int.tmod (cn : Int) 9 = (cn : Int) % 9 := by rw [Int.tmod_eq_emod_of_nonneg (by omega)]
  have q3 : IntKind.i64.wrap ((cn : Int) % 9) = (cn : Int) % 9 := by rw [IntKind.wrap_i64]; omega
  have q4 : (cn : Int) % 9 = ((cn % 9 : Nat) : Int) := by omega
  have hN : cn % 9 ≤ 8 := by omega
  generalize cn % 9 = N at *
  have hnew := fun W => ranew_yes 2 N (by omega) (by omega) (by omega) W
  have hp0 := newS_k (t := 2) (c := N) (by omega) (by omega) (by omega)
  have hk0 := new_wok (t := 2) (c := N) (by omega) (by omega) (by omega)
  have hs0 : (newS N).e = 0 := rfl
  have hz0 : ∀ i, (newS N).P i = 0 := fun _ => rfl
  have hl0 : ∀ i, (newS N).L i = [] := fun _ => rfl
  have hpl0 : (newS N).pile = upFrom 1 N := rfl
  generalize newW 2 N = X0 at *
  generalize newS N = S0 at *
  go_enter Try.func7, Try.ntmps7
  go_wp2_with fail
  refine (shown13_any _).mono ?_
  rintro e w1 ⟨rfl, hW⟩
  go_wp2_with fail
  refine (hnew _).mono ?_
  rintro e w_a ⟨v_, rfl, hVa, hx_⟩
  obtain ⟨aA, aq, ac, aB, ab, aC, ad, rfl⟩ := hVa.form6
  replace hW := hW.trans hx_
  clear hx_
  go_upto_region 4 with (fail)
  have hx_ : Ext w_a (w_a.alloc (.cells #[.int .i64 X0.T, .int .i64 X0.C, .slice aA aq ac, .int .u64 X0.R, .slice aB X0.n ab, .slice aC X0.n ad] 51)) := (Below.refl _ w_a).alloc (Nat.le_refl _) _
  have hba := heap_alloc_new w_a (.cells #[.int .i64 X0.T, .int .i64 X0.C, .slice aA aq ac, .int .u64 X0.R, .slice aB X0.n ab, .slice aC X0.n ad] 51)
  generalize w_a.alloc (.cells #[.int .i64 X0.T, .int .i64 X0.C, .slice aA aq ac, .int .u64 X0.R, .slice aB X0.n ab, .slice aC X0.n ad] 51) = W3 at *
  have hls := hW.size
  generalize w_a.heap.size = ga at *
  replace hVa := hVa.ext hx_
  replace hW := hW.trans hx_
  clear hx_
  have hbx : BoxW W3 ga X0 := ⟨_, hba, hVa⟩
  have hlg : ga < W3.heap.size := (Array.getElem?_eq_some_iff.1 hba).1
  clear hba hVa hnew q1 q2 q3
  rcases Nat.lt_or_ge m N with h6 | h6
  · have h6' : (m : Int) < (N : Int) := by omega
    go_wp2
    go_ret
    exact ⟨rfl, hW⟩
  have h6' : ¬ (m : Int) < (N : Int) := by omega
  go_wp2
  go_loopw [8] (fun iv wr => ∃ (j : Nat) (Xj : WldK) (S : EpS), iv = .int .i64 (j : Int) ∧ j ≤ N ∧ BoxW wr ga Xj ∧ EpK Xj 2 N S ∧ WOk Xj ∧ S.pile = upFrom (j + 1) (N - j) ∧ (∀ i, S.L i = []) ∧ S.e = 0 ∧ (∀ i, S.P i = 0) ∧ Ext w wr ∧ ga < wr.heap.size) (fun iv _ => N - (intOf iv).toNat)
  case atStart => exact ⟨0, X0, S0, rfl, Nat.zero_le _, hbx, hp0, hk0, hpl0, hl0, hs0, hz0, hW, hlg⟩
  case round =>
    clear hp0 hk0 hW hlg hbx hs0 hz0 hl0 hpl0
    obtain ⟨j, Xj, S, rfl, hj, hbx, hpj, hkj, hpl, hsl, hse, hsz, hWr, hgr⟩ := hrel
    rcases Nat.lt_or_ge j N with hjN | hjN
    · obtain ⟨bA, bq, bc, bB, bb, bC, bd, hb0, hbV⟩ := hbx.form
      clear hbx
      have hjI : (j : Int) < (N : Int) := by omega
      rw [up_cons (by omega)] at hpl
      have hal := alloc_head (t := 2) (me := 0) hpl (by omega)
      obtain ⟨X1, hp1, hk1, hcon⟩ := eal_alloc hpj hkj (me := 0) (by omega) (by omega) 200 (by omega) (by omega)
      have hjw : (((j + 1 : Nat) : Int)) = (j : Int) + 1 := by omega
      rw [hal, hjw, show (((0 : Nat) : Int)) = 0 from rfl, show (((200 : Nat) : Int)) = 200 from rfl] at hcon
      rw [hal] at hp1
      have hpl1 : S.pop.pile = upFrom (j + 1 + 1) (N - (j + 1)) := by simp [EpS.pop, hpl]; rw [show N - j - 1 = N - (j + 1) by omega]
      have hsl1 : ∀ i, S.pop.L i = [] := hsl
      have hse1 : S.pop.e = 0 := hse
      have hsz1 : ∀ i, S.pop.P i = 0 := hsz
      replace hp1 : EpK X1 2 N S.pop := hp1
      replace hcon : ∀ (wv : Value) (v d : Int) (w : World), WldV w wv Xj → Calls Try.prog 22 #[wv, .int .i64 0, .agg #[.int .i64 6, .int .i64 0, .int .i64 v, .int .u64 d], .int .i64 200] w fun e w' => ∃ v', e = .returned (.tuple #[v', .agg #[.int .i64 0, .bool false, .int .i64 ((j : Int) + 1), .int .u64 0, .slice none 0 0], .bool true]) ∧ WldV w' v' X1 ∧ Ext w w' := hcon
      generalize S.pop = S1 at *
      clear hal hpl hsl hse hsz hpj hjw
      have e0 : wr.cell? ⟨ga, 0, none⟩ = some (.int .i64 Xj.T) := by simp [World.cell?, hb0]
      have e1 : wr.cell? ⟨ga, 1, none⟩ = some (.int .i64 Xj.C) := by simp [World.cell?, hb0]
      have e2 : wr.cell? ⟨ga, 2, none⟩ = some (.slice bA bq bc) := by simp [World.cell?, hb0]
      have e3 : wr.cell? ⟨ga, 3, none⟩ = some (.int .u64 Xj.R) := by simp [World.cell?, hb0]
      have e4 : wr.cell? ⟨ga, 4, none⟩ = some (.slice bB Xj.n bb) := by simp [World.cell?, hb0]
      have e5 : wr.cell? ⟨ga, 5, none⟩ = some (.slice bC Xj.n bd) := by simp [World.cell?, hb0]
      go_wp2_with fail
      refine (hcon _ _ _ _ hbV).mono ?_
      rintro e w7c ⟨v_, rfl, hVc, hx_⟩
      obtain ⟨cA, cq, cc, cB, cb, cC, cd, rfl⟩ := hVc.form6
      replace hgr := Nat.lt_of_lt_of_le hgr hx_.size
      clear e0 e1 e2 e3 e4 e5
      replace hb0 := heap_ext hb0 hx_
      replace hbV := hbV.ext hx_
      replace hWr := hWr.trans hx_
      clear hx_
      go_upto_region 10 with (fail)
      obtain ⟨hx_, hbc, hoc⟩ := two_boxes7 w7c (.cells #[.int .i64 X1.T, .int .i64 X1.C, .slice cA cq cc, .int .u64 X1.R, .slice cB X1.n cb, .slice cC X1.n cd] 51) (.cells #[.int .i64 0, .bool false, .int .i64 ((j : Int) + 1), .int .u64 0, .slice none 0 0] 37)
      generalize (w7c.alloc (.cells #[.int .i64 X1.T, .int .i64 X1.C, .slice cA cq cc, .int .u64 X1.R, .slice cB X1.n cb, .slice cC X1.n cd] 51)).alloc (.cells #[.int .i64 0, .bool false, .int .i64 ((j : Int) + 1), .int .u64 0, .slice none 0 0] 37) = W7c at *
      have hgc := hgr
      replace hgr := Nat.lt_of_lt_of_le hgr hx_.size
      generalize w7c.heap.size = gc at *
      replace hb0 := heap_ext hb0 hx_
      replace hbV := hbV.ext hx_
      replace hVc := hVc.ext hx_
      replace hWr := hWr.trans hx_
      clear hx_
      have o0 : W7c.cell? ⟨gc + 1, 0, none⟩ = some (.int .i64 0) := by simp [World.cell?, hoc]
      have o1 : W7c.cell? ⟨gc + 1, 1, none⟩ = some (.bool false) := by simp [World.cell?, hoc]
      have o2 : W7c.cell? ⟨gc + 1, 2, none⟩ = some (.int .i64 ((j : Int) + 1)) := by simp [World.cell?, hoc]
      have o3 : W7c.cell? ⟨gc + 1, 3, none⟩ = some (.int .u64 0) := by simp [World.cell?, hoc]
      have o4 : W7c.cell? ⟨gc + 1, 4, none⟩ = some (.slice none 0 0) := by simp [World.cell?, hoc]
      go_upto_region 12 with (fail)
      clear o0 o1 o2 o3 o4
      have nc : ¬ ga = gc := by omega
      have nc' : ¬ gc = ga := by omega
      clear hcon
      have f0 : W7c.cell? ⟨gc, 0, none⟩ = some (.int .i64 X1.T) := by simp [World.cell?, hbc]
      have f1 : W7c.cell? ⟨gc, 1, none⟩ = some (.int .i64 X1.C) := by simp [World.cell?, hbc]
      have f2 : W7c.cell? ⟨gc, 2, none⟩ = some (.slice cA cq cc) := by simp [World.cell?, hbc]
      have f3 : W7c.cell? ⟨gc, 3, none⟩ = some (.int .u64 X1.R) := by simp [World.cell?, hbc]
      have f4 : W7c.cell? ⟨gc, 4, none⟩ = some (.slice cB X1.n cb) := by simp [World.cell?, hbc]
      have f5 : W7c.cell? ⟨gc, 5, none⟩ = some (.slice cC X1.n cd) := by simp [World.cell?, hbc]
      have e0 : W7c.cell? ⟨ga, 0, none⟩ = some (.int .i64 Xj.T) := by simp [World.cell?, hb0]
      have ef0 : W7c.frozen? ⟨ga, 0, none⟩ = false := by simp [World.frozen?, hb0]
      have e1 : W7c.cell? ⟨ga, 1, none⟩ = some (.int .i64 Xj.C) := by simp [World.cell?, hb0]
      have ef1 : W7c.frozen? ⟨ga, 1, none⟩ = false := by simp [World.frozen?, hb0]
      have e2 : W7c.cell? ⟨ga, 2, none⟩ = some (.slice bA bq bc) := by simp [World.cell?, hb0]
      have ef2 : W7c.frozen? ⟨ga, 2, none⟩ = false := by simp [World.frozen?, hb0]
      have e3 : W7c.cell? ⟨ga, 3, none⟩ = some (.int .u64 Xj.R) := by simp [World.cell?, hb0]
      have ef3 : W7c.frozen? ⟨ga, 3, none⟩ = false := by simp [World.frozen?, hb0]
      have e4 : W7c.cell? ⟨ga, 4, none⟩ = some (.slice bB Xj.n bb) := by simp [World.cell?, hb0]
      have ef4 : W7c.frozen? ⟨ga, 4, none⟩ = false := by simp [World.frozen?, hb0]
      have e5 : W7c.cell? ⟨ga, 5, none⟩ = some (.slice bC Xj.n bd) := by simp [World.cell?, hb0]
      have ef5 : W7c.frozen? ⟨ga, 5, none⟩ = false := by simp [World.frozen?, hb0]
      go_wp2
      have hb0_ : ((((((W7c.setCell ⟨ga, 0, none⟩ (.int .i64 X1.T)).setCell ⟨ga, 1, none⟩ (.int .i64 X1.C)).setCell ⟨ga, 2, none⟩ (.slice cA cq cc)).setCell ⟨ga, 3, none⟩ (.int .u64 X1.R)).setCell ⟨ga, 4, none⟩ (.slice cB X1.n cb)).setCell ⟨ga, 5, none⟩ (.slice cC X1.n cd)).heap[ga]? = some (.cells #[.int .i64 X1.T, .int .i64 X1.C, .slice cA cq cc, .int .u64 X1.R, .slice cB X1.n cb, .slice cC X1.n cd] 51 (0, 0)) := setAll_all (vs := [.int .i64 X1.T, .int .i64 X1.C, .slice cA cq cc, .int .u64 X1.R, .slice cB X1.n cb, .slice cC X1.n cd]) hb0 rfl
      have hWs_ : Ext w ((((((W7c.setCell ⟨ga, 0, none⟩ (.int .i64 X1.T)).setCell ⟨ga, 1, none⟩ (.int .i64 X1.C)).setCell ⟨ga, 2, none⟩ (.slice cA cq cc)).setCell ⟨ga, 3, none⟩ (.int .u64 X1.R)).setCell ⟨ga, 4, none⟩ (.slice cB X1.n cb)).setCell ⟨ga, 5, none⟩ (.slice cC X1.n cd)) := setAll_ext (g := ga) (vs := [.int .i64 X1.T, .int .i64 X1.C, .slice cA cq cc, .int .u64 X1.R, .slice cB X1.n cb, .slice cC X1.n cd]) (i := 0) hWr hls
      have hk_ : ∀ g, g ≠ ga → ((((((W7c.setCell ⟨ga, 0, none⟩ (.int .i64 X1.T)).setCell ⟨ga, 1, none⟩ (.int .i64 X1.C)).setCell ⟨ga, 2, none⟩ (.slice cA cq cc)).setCell ⟨ga, 3, none⟩ (.int .u64 X1.R)).setCell ⟨ga, 4, none⟩ (.slice cB X1.n cb)).setCell ⟨ga, 5, none⟩ (.slice cC X1.n cd)).heap[g]? = W7c.heap[g]? := fun g hg => setAll_other (g := ga) (k := g) hg [.int .i64 X1.T, .int .i64 X1.C, .slice cA cq cc, .int .u64 X1.R, .slice cB X1.n cb, .slice cC X1.n cd] 0 W7c
      have hVc_ := hVc.but hk1.2.2 (But.all ga [.int .i64 X1.T, .int .i64 X1.C, .slice cA cq cc, .int .u64 X1.R, .slice cB X1.n cb, .slice cC X1.n cd] 0 W7c) hb0 rfl
      change WldV ((((((W7c.setCell ⟨ga, 0, none⟩ (.int .i64 X1.T)).setCell ⟨ga, 1, none⟩ (.int .i64 X1.C)).setCell ⟨ga, 2, none⟩ (.slice cA cq cc)).setCell ⟨ga, 3, none⟩ (.int .u64 X1.R)).setCell ⟨ga, 4, none⟩ (.slice cB X1.n cb)).setCell ⟨ga, 5, none⟩ (.slice cC X1.n cd)) _ _ at hVc_
      have hsz_ : ((((((W7c.setCell ⟨ga, 0, none⟩ (.int .i64 X1.T)).setCell ⟨ga, 1, none⟩ (.int .i64 X1.C)).setCell ⟨ga, 2, none⟩ (.slice cA cq cc)).setCell ⟨ga, 3, none⟩ (.int .u64 X1.R)).setCell ⟨ga, 4, none⟩ (.slice cB X1.n cb)).setCell ⟨ga, 5, none⟩ (.slice cC X1.n cd)).heap.size = W7c.heap.size := by simp [World.setCell]
      generalize ((((((W7c.setCell ⟨ga, 0, none⟩ (.int .i64 X1.T)).setCell ⟨ga, 1, none⟩ (.int .i64 X1.C)).setCell ⟨ga, 2, none⟩ (.slice cA cq cc)).setCell ⟨ga, 3, none⟩ (.int .u64 X1.R)).setCell ⟨ga, 4, none⟩ (.slice cB X1.n cb)).setCell ⟨ga, 5, none⟩ (.slice cC X1.n cd)) = wg at *
      go_roundw
      case rel => exact ⟨j + 1, X1, S1, by go_num, by omega, ⟨_, hb0_, hVc_⟩, hp1, hk1, hpl1, hsl1, hse1, hsz1, hWs_, by rw [hsz_]; exact hgr⟩
      case measure => simp [intOf]; omega
    · obtain rfl : j = N := by omega
      have hjI : ¬ (j : Int) < (j : Int) := by omega
      have hall : S.all = [] := by
        have : S.pile = [] := by rw [hpl]; simp [upFrom]
        unfold EpS.all; rw [this, hsl, hsl, hsl]; rfl
      have hhe : HE j S (upFrom 1 j) := by
        refine ⟨by rw [hall]; exact upFrom_nodup _ _, fun x hx => ?_, by rw [hall, upFrom_len]; simp⟩
        rw [hall] at hx
        have := upFrom_mem (n := j) (r := 1) hx
        omega
      have hse0 : S.e ≤ 0 := by omega
      clear hall hpl hsl hse hj
      go_wp2
      go_loopw [12] (fun iv wr => ∃ (i : Nat) (Xj : WldK) (S : EpS), iv = .int .i64 (i : Int) ∧ i ≤ j ∧ BoxW wr ga Xj ∧ EpK Xj 2 j S ∧ WOk Xj ∧ HE j S (upFrom (i + 1) (j - i)) ∧ S.e ≤ i ∧ (∀ i, S.P i = 0) ∧ Ext w wr ∧ ga < wr.heap.size) (fun iv _ => j - (intOf iv).toNat)
      case atStart => exact ⟨0, Xj, S, rfl, Nat.zero_le _, hbx, hpj, hkj, hhe, hse0, hsz, hWr, hgr⟩
      case round =>
        clear hbx hpj hkj hhe hse0 hsz hWr hgr
        obtain ⟨i, Xj, S, rfl, hi, hbx, hpj, hkj, hhe, hse, hsz, hWr, hgr⟩ := hrel
        rcases Nat.lt_or_ge i j with hij | hij
        · obtain ⟨bA, bq, bc, bB, bb, bC, bd, hb0, hbV⟩ := hbx.form
          clear hbx
          have hiI : (i : Int) < (j : Int) := by omega
          rw [up_cons (by omega)] at hhe
          obtain ⟨hhe1, hxn, -, -⟩ := HE.back (h1 := []) hhe
          rw [List.nil_append] at hhe1
          obtain ⟨X1, hp1, hk1, hcon⟩ := eal_retire hpj hkj (me := 1) (by omega) (x := i + 1) (by omega) (by omega) hxn 9 (by omega) (by omega)
          have hjw : (((i + 1 : Nat) : Int)) = (i : Int) + 1 := by omega
          rw [hjw, show (((1 : Nat) : Int)) = 1 from rfl, show (((9 : Nat) : Int)) = 9 from rfl] at hcon
          have hse1 : (S.retire ((i + 1 : Nat) : Int)).e ≤ i := hse
          have hsz1 : ∀ k, (S.retire ((i + 1 : Nat) : Int)).P k = 0 := hsz
          generalize S.retire ((i + 1 : Nat) : Int) = S1 at *
          rw [show j - i - 1 = j - (i + 1) by omega] at hhe1
          clear hhe hxn hpj hse hsz hjw
          have e0 : wr.cell? ⟨ga, 0, none⟩ = some (.int .i64 Xj.T) := by simp [World.cell?, hb0]
          have e1 : wr.cell? ⟨ga, 1, none⟩ = some (.int .i64 Xj.C) := by simp [World.cell?, hb0]
          have e2 : wr.cell? ⟨ga, 2, none⟩ = some (.slice bA bq bc) := by simp [World.cell?, hb0]
          have e3 : wr.cell? ⟨ga, 3, none⟩ = some (.int .u64 Xj.R) := by simp [World.cell?, hb0]
          have e4 : wr.cell? ⟨ga, 4, none⟩ = some (.slice bB Xj.n bb) := by simp [World.cell?, hb0]
          have e5 : wr.cell? ⟨ga, 5, none⟩ = some (.slice bC Xj.n bd) := by simp [World.cell?, hb0]
          go_wp2_with fail
          refine (hcon _ _ _ _ hbV).mono ?_
          rintro e w7c ⟨v_, rfl, hVc, hx_⟩
          obtain ⟨cA, cq, cc, cB, cb, cC, cd, rfl⟩ := hVc.form6
          replace hgr := Nat.lt_of_lt_of_le hgr hx_.size
          clear e0 e1 e2 e3 e4 e5
          replace hb0 := heap_ext hb0 hx_
          replace hbV := hbV.ext hx_
          replace hWr := hWr.trans hx_
          clear hx_
          go_upto_region 17 with (fail)
          obtain ⟨hx_, hbc, hoc⟩ := two_boxes7 w7c (.cells #[.int .i64 X1.T, .int .i64 X1.C, .slice cA cq cc, .int .u64 X1.R, .slice cB X1.n cb, .slice cC X1.n cd] 51) (.cells #[.int .i64 0, .bool false, .int .i64 0, .int .u64 0, .slice none 0 0] 37)
          generalize (w7c.alloc (.cells #[.int .i64 X1.T, .int .i64 X1.C, .slice cA cq cc, .int .u64 X1.R, .slice cB X1.n cb, .slice cC X1.n cd] 51)).alloc (.cells #[.int .i64 0, .bool false, .int .i64 0, .int .u64 0, .slice none 0 0] 37) = W7c at *
          have hgc := hgr
          replace hgr := Nat.lt_of_lt_of_le hgr hx_.size
          generalize w7c.heap.size = gc at *
          replace hb0 := heap_ext hb0 hx_
          replace hbV := hbV.ext hx_
          replace hVc := hVc.ext hx_
          replace hWr := hWr.trans hx_
          clear hx_
          go_upto_region 19 with (fail)
          have nc : ¬ ga = gc := by omega
          have nc' : ¬ gc = ga := by omega
          clear hcon
          have f0 : W7c.cell? ⟨gc, 0, none⟩ = some (.int .i64 X1.T) := by simp [World.cell?, hbc]
          have f1 : W7c.cell? ⟨gc, 1, none⟩ = some (.int .i64 X1.C) := by simp [World.cell?, hbc]
          have f2 : W7c.cell? ⟨gc, 2, none⟩ = some (.slice cA cq cc) := by simp [World.cell?, hbc]
          have f3 : W7c.cell? ⟨gc, 3, none⟩ = some (.int .u64 X1.R) := by simp [World.cell?, hbc]
          have f4 : W7c.cell? ⟨gc, 4, none⟩ = some (.slice cB X1.n cb) := by simp [World.cell?, hbc]
          have f5 : W7c.cell? ⟨gc, 5, none⟩ = some (.slice cC X1.n cd) := by simp [World.cell?, hbc]
          have e0 : W7c.cell? ⟨ga, 0, none⟩ = some (.int .i64 Xj.T) := by simp [World.cell?, hb0]
          have ef0 : W7c.frozen? ⟨ga, 0, none⟩ = false := by simp [World.frozen?, hb0]
          have e1 : W7c.cell? ⟨ga, 1, none⟩ = some (.int .i64 Xj.C) := by simp [World.cell?, hb0]
          have ef1 : W7c.frozen? ⟨ga, 1, none⟩ = false := by simp [World.frozen?, hb0]
          have e2 : W7c.cell? ⟨ga, 2, none⟩ = some (.slice bA bq bc) := by simp [World.cell?, hb0]
          have ef2 : W7c.frozen? ⟨ga, 2, none⟩ = false := by simp [World.frozen?, hb0]
          have e3 : W7c.cell? ⟨ga, 3, none⟩ = some (.int .u64 Xj.R) := by simp [World.cell?, hb0]
          have ef3 : W7c.frozen? ⟨ga, 3, none⟩ = false := by simp [World.frozen?, hb0]
          have e4 : W7c.cell? ⟨ga, 4, none⟩ = some (.slice bB Xj.n bb) := by simp [World.cell?, hb0]
          have ef4 : W7c.frozen? ⟨ga, 4, none⟩ = false := by simp [World.frozen?, hb0]
          have e5 : W7c.cell? ⟨ga, 5, none⟩ = some (.slice bC Xj.n bd) := by simp [World.cell?, hb0]
          have ef5 : W7c.frozen? ⟨ga, 5, none⟩ = false := by simp [World.frozen?, hb0]
          go_upto_region 20 with (fail)
          have hb0_ : ((((((W7c.setCell ⟨ga, 0, none⟩ (.int .i64 X1.T)).setCell ⟨ga, 1, none⟩ (.int .i64 X1.C)).setCell ⟨ga, 2, none⟩ (.slice cA cq cc)).setCell ⟨ga, 3, none⟩ (.int .u64 X1.R)).setCell ⟨ga, 4, none⟩ (.slice cB X1.n cb)).setCell ⟨ga, 5, none⟩ (.slice cC X1.n cd)).heap[ga]? = some (.cells #[.int .i64 X1.T, .int .i64 X1.C, .slice cA cq cc, .int .u64 X1.R, .slice cB X1.n cb, .slice cC X1.n cd] 51 (0, 0)) := setAll_all (vs := [.int .i64 X1.T, .int .i64 X1.C, .slice cA cq cc, .int .u64 X1.R, .slice cB X1.n cb, .slice cC X1.n cd]) hb0 rfl
          have hWs_ : Ext w ((((((W7c.setCell ⟨ga, 0, none⟩ (.int .i64 X1.T)).setCell ⟨ga, 1, none⟩ (.int .i64 X1.C)).setCell ⟨ga, 2, none⟩ (.slice cA cq cc)).setCell ⟨ga, 3, none⟩ (.int .u64 X1.R)).setCell ⟨ga, 4, none⟩ (.slice cB X1.n cb)).setCell ⟨ga, 5, none⟩ (.slice cC X1.n cd)) := setAll_ext (g := ga) (vs := [.int .i64 X1.T, .int .i64 X1.C, .slice cA cq cc, .int .u64 X1.R, .slice cB X1.n cb, .slice cC X1.n cd]) (i := 0) hWr hls
          have hk_ : ∀ g, g ≠ ga → ((((((W7c.setCell ⟨ga, 0, none⟩ (.int .i64 X1.T)).setCell ⟨ga, 1, none⟩ (.int .i64 X1.C)).setCell ⟨ga, 2, none⟩ (.slice cA cq cc)).setCell ⟨ga, 3, none⟩ (.int .u64 X1.R)).setCell ⟨ga, 4, none⟩ (.slice cB X1.n cb)).setCell ⟨ga, 5, none⟩ (.slice cC X1.n cd)).heap[g]? = W7c.heap[g]? := fun g hg => setAll_other (g := ga) (k := g) hg [.int .i64 X1.T, .int .i64 X1.C, .slice cA cq cc, .int .u64 X1.R, .slice cB X1.n cb, .slice cC X1.n cd] 0 W7c
          have hVc_ := hVc.but hk1.2.2 (But.all ga [.int .i64 X1.T, .int .i64 X1.C, .slice cA cq cc, .int .u64 X1.R, .slice cB X1.n cb, .slice cC X1.n cd] 0 W7c) hb0 rfl
          change WldV ((((((W7c.setCell ⟨ga, 0, none⟩ (.int .i64 X1.T)).setCell ⟨ga, 1, none⟩ (.int .i64 X1.C)).setCell ⟨ga, 2, none⟩ (.slice cA cq cc)).setCell ⟨ga, 3, none⟩ (.int .u64 X1.R)).setCell ⟨ga, 4, none⟩ (.slice cB X1.n cb)).setCell ⟨ga, 5, none⟩ (.slice cC X1.n cd)) _ _ at hVc_
          have hsz_ : ((((((W7c.setCell ⟨ga, 0, none⟩ (.int .i64 X1.T)).setCell ⟨ga, 1, none⟩ (.int .i64 X1.C)).setCell ⟨ga, 2, none⟩ (.slice cA cq cc)).setCell ⟨ga, 3, none⟩ (.int .u64 X1.R)).setCell ⟨ga, 4, none⟩ (.slice cB X1.n cb)).setCell ⟨ga, 5, none⟩ (.slice cC X1.n cd)).heap.size = W7c.heap.size := by simp [World.setCell]
          have hgr_ : ga < ((((((W7c.setCell ⟨ga, 0, none⟩ (.int .i64 X1.T)).setCell ⟨ga, 1, none⟩ (.int .i64 X1.C)).setCell ⟨ga, 2, none⟩ (.slice cA cq cc)).setCell ⟨ga, 3, none⟩ (.int .u64 X1.R)).setCell ⟨ga, 4, none⟩ (.slice cB X1.n cb)).setCell ⟨ga, 5, none⟩ (.slice cC X1.n cd)).heap.size := by rw [hsz_]; exact hgr
          have hcz1 : ∀ i (_ : i < m), True := fun _ _ => trivial
          clear hcz1
          clear hk_ hsz_ hgr hoc hb0 hVc hWr hbc hbV hkj f0 f1 f2 f3 f4 f5 e0 e1 e2 e3 e4 e5 ef0 ef1 ef2 ef3 ef4 ef5
          generalize ((((((W7c.setCell ⟨ga, 0, none⟩ (.int .i64 X1.T)).setCell ⟨ga, 1, none⟩ (.int .i64 X1.C)).setCell ⟨ga, 2, none⟩ (.slice cA cq cc)).setCell ⟨ga, 3, none⟩ (.int .u64 X1.R)).setCell ⟨ga, 4, none⟩ (.slice cB X1.n cb)).setCell ⟨ga, 5, none⟩ (.slice cC X1.n cd)) = wg at *
          obtain ⟨ad, z, rfl, hcz, hzz⟩ := bytes_cell (hM.ext hWs_) (show i < m by omega)
          have him : (i : Int) < (m : Int) := by omega
          have hy2 : Int.tmod (z : Int) 3 = (z : Int) % 3 := by rw [Int.tmod_eq_emod_of_nonneg (by omega)]
          have hy3 : IntKind.u8.wrap ((z : Int) % 3) = (z : Int) % 3 := by rw [IntKind.wrap_u8]; omega
          rcases (Decidable.em ((z : Int) % 3 = 0)) with hy1 | hy1
          · have hok := okP_zero (t := 2) hsz1
            obtain ⟨X2, hp2, hk2, hcon⟩ := eal_adv hp1 hk1 (me := 1) (by omega) (by omega) 200 (by omega) (by omega)
            rw [decide_eq_true hok, show (((1 : Nat) : Int)) = 1 from rfl, show (((200 : Nat) : Int)) = 200 from rfl] at hcon
            have hhe2 := hhe1.perm (adv_all S1 2)
            have hse2 : (S1.adv 2).e ≤ i + 1 := by have := adv_e S1 2; omega
            have hsz2 : ∀ k, (S1.adv 2).P k = 0 := fun k => by rw [adv_P]; exact hsz1 k
            generalize S1.adv 2 = S2 at *
            clear hok hp1 hhe1 hse1 hsz1
            have hb0 := hb0_
            have hbV := hVc_
            have hWr := hWs_
            have hgr := hgr_
            clear hb0_ hVc_ hWs_ hgr_
            have e0 : wg.cell? ⟨ga, 0, none⟩ = some (.int .i64 X1.T) := by simp [World.cell?, hb0]
            have e1 : wg.cell? ⟨ga, 1, none⟩ = some (.int .i64 X1.C) := by simp [World.cell?, hb0]
            have e2 : wg.cell? ⟨ga, 2, none⟩ = some (.slice cA cq cc) := by simp [World.cell?, hb0]
            have e3 : wg.cell? ⟨ga, 3, none⟩ = some (.int .u64 X1.R) := by simp [World.cell?, hb0]
            have e4 : wg.cell? ⟨ga, 4, none⟩ = some (.slice cB X1.n cb) := by simp [World.cell?, hb0]
            have e5 : wg.cell? ⟨ga, 5, none⟩ = some (.slice cC X1.n cd) := by simp [World.cell?, hb0]
            go_upto_region 21 with (fail)
            clear hcz
            clear e0 e1 e2 e3 e4 e5
            have e0 : wg.cell? ⟨ga, 0, none⟩ = some (.int .i64 X1.T) := by simp [World.cell?, hb0]
            have e1 : wg.cell? ⟨ga, 1, none⟩ = some (.int .i64 X1.C) := by simp [World.cell?, hb0]
            have e2 : wg.cell? ⟨ga, 2, none⟩ = some (.slice cA cq cc) := by simp [World.cell?, hb0]
            have e3 : wg.cell? ⟨ga, 3, none⟩ = some (.int .u64 X1.R) := by simp [World.cell?, hb0]
            have e4 : wg.cell? ⟨ga, 4, none⟩ = some (.slice cB X1.n cb) := by simp [World.cell?, hb0]
            have e5 : wg.cell? ⟨ga, 5, none⟩ = some (.slice cC X1.n cd) := by simp [World.cell?, hb0]
            go_wp2_with fail
            refine (hcon _ _ _ _ hbV).mono ?_
            rintro e w7d ⟨v_, rfl, hVd, hx_⟩
            obtain ⟨dA, dq, dc, dB, db, dC, dd, rfl⟩ := hVd.form6
            replace hgr := Nat.lt_of_lt_of_le hgr hx_.size
            clear e0 e1 e2 e3 e4 e5
            replace hb0 := heap_ext hb0 hx_
            replace hbV := hbV.ext hx_
            replace hWr := hWr.trans hx_
            clear hx_
            go_upto_region 22 with (fail)
            obtain ⟨hx_, hbd, hod⟩ := two_boxes7 w7d (.cells #[.int .i64 X2.T, .int .i64 X2.C, .slice dA dq dc, .int .u64 X2.R, .slice dB X2.n db, .slice dC X2.n dd] 51) (.cells #[.int .i64 0, .bool true, .int .i64 0, .int .u64 0, .slice none 0 0] 37)
            generalize (w7d.alloc (.cells #[.int .i64 X2.T, .int .i64 X2.C, .slice dA dq dc, .int .u64 X2.R, .slice dB X2.n db, .slice dC X2.n dd] 51)).alloc (.cells #[.int .i64 0, .bool true, .int .i64 0, .int .u64 0, .slice none 0 0] 37) = W7d at *
            have hgd := hgr
            replace hgr := Nat.lt_of_lt_of_le hgr hx_.size
            generalize w7d.heap.size = gd at *
            replace hb0 := heap_ext hb0 hx_
            replace hbV := hbV.ext hx_
            replace hVd := hVd.ext hx_
            replace hWr := hWr.trans hx_
            clear hx_
            go_upto_region 24 with (fail)
            have nd : ¬ ga = gd := by omega
            have nd' : ¬ gd = ga := by omega
            clear hcon
            have f0 : W7d.cell? ⟨gd, 0, none⟩ = some (.int .i64 X2.T) := by simp [World.cell?, hbd]
            have f1 : W7d.cell? ⟨gd, 1, none⟩ = some (.int .i64 X2.C) := by simp [World.cell?, hbd]
            have f2 : W7d.cell? ⟨gd, 2, none⟩ = some (.slice dA dq dc) := by simp [World.cell?, hbd]
            have f3 : W7d.cell? ⟨gd, 3, none⟩ = some (.int .u64 X2.R) := by simp [World.cell?, hbd]
            have f4 : W7d.cell? ⟨gd, 4, none⟩ = some (.slice dB X2.n db) := by simp [World.cell?, hbd]
            have f5 : W7d.cell? ⟨gd, 5, none⟩ = some (.slice dC X2.n dd) := by simp [World.cell?, hbd]
            have e0 : W7d.cell? ⟨ga, 0, none⟩ = some (.int .i64 X1.T) := by simp [World.cell?, hb0]
            have ef0 : W7d.frozen? ⟨ga, 0, none⟩ = false := by simp [World.frozen?, hb0]
            have e1 : W7d.cell? ⟨ga, 1, none⟩ = some (.int .i64 X1.C) := by simp [World.cell?, hb0]
            have ef1 : W7d.frozen? ⟨ga, 1, none⟩ = false := by simp [World.frozen?, hb0]
            have e2 : W7d.cell? ⟨ga, 2, none⟩ = some (.slice cA cq cc) := by simp [World.cell?, hb0]
            have ef2 : W7d.frozen? ⟨ga, 2, none⟩ = false := by simp [World.frozen?, hb0]
            have e3 : W7d.cell? ⟨ga, 3, none⟩ = some (.int .u64 X1.R) := by simp [World.cell?, hb0]
            have ef3 : W7d.frozen? ⟨ga, 3, none⟩ = false := by simp [World.frozen?, hb0]
            have e4 : W7d.cell? ⟨ga, 4, none⟩ = some (.slice cB X1.n cb) := by simp [World.cell?, hb0]
            have ef4 : W7d.frozen? ⟨ga, 4, none⟩ = false := by simp [World.frozen?, hb0]
            have e5 : W7d.cell? ⟨ga, 5, none⟩ = some (.slice cC X1.n cd) := by simp [World.cell?, hb0]
            have ef5 : W7d.frozen? ⟨ga, 5, none⟩ = false := by simp [World.frozen?, hb0]
            go_wp2
            have hb0_ : ((((((W7d.setCell ⟨ga, 0, none⟩ (.int .i64 X2.T)).setCell ⟨ga, 1, none⟩ (.int .i64 X2.C)).setCell ⟨ga, 2, none⟩ (.slice dA dq dc)).setCell ⟨ga, 3, none⟩ (.int .u64 X2.R)).setCell ⟨ga, 4, none⟩ (.slice dB X2.n db)).setCell ⟨ga, 5, none⟩ (.slice dC X2.n dd)).heap[ga]? = some (.cells #[.int .i64 X2.T, .int .i64 X2.C, .slice dA dq dc, .int .u64 X2.R, .slice dB X2.n db, .slice dC X2.n dd] 51 (0, 0)) := setAll_all (vs := [.int .i64 X2.T, .int .i64 X2.C, .slice dA dq dc, .int .u64 X2.R, .slice dB X2.n db, .slice dC X2.n dd]) hb0 rfl
            have hWs_ : Ext w ((((((W7d.setCell ⟨ga, 0, none⟩ (.int .i64 X2.T)).setCell ⟨ga, 1, none⟩ (.int .i64 X2.C)).setCell ⟨ga, 2, none⟩ (.slice dA dq dc)).setCell ⟨ga, 3, none⟩ (.int .u64 X2.R)).setCell ⟨ga, 4, none⟩ (.slice dB X2.n db)).setCell ⟨ga, 5, none⟩ (.slice dC X2.n dd)) := setAll_ext (g := ga) (vs := [.int .i64 X2.T, .int .i64 X2.C, .slice dA dq dc, .int .u64 X2.R, .slice dB X2.n db, .slice dC X2.n dd]) (i := 0) hWr hls
            have hk_ : ∀ g, g ≠ ga → ((((((W7d.setCell ⟨ga, 0, none⟩ (.int .i64 X2.T)).setCell ⟨ga, 1, none⟩ (.int .i64 X2.C)).setCell ⟨ga, 2, none⟩ (.slice dA dq dc)).setCell ⟨ga, 3, none⟩ (.int .u64 X2.R)).setCell ⟨ga, 4, none⟩ (.slice dB X2.n db)).setCell ⟨ga, 5, none⟩ (.slice dC X2.n dd)).heap[g]? = W7d.heap[g]? := fun g hg => setAll_other (g := ga) (k := g) hg [.int .i64 X2.T, .int .i64 X2.C, .slice dA dq dc, .int .u64 X2.R, .slice dB X2.n db, .slice dC X2.n dd] 0 W7d
            have hVd_ := hVd.but hk2.2.2 (But.all ga [.int .i64 X2.T, .int .i64 X2.C, .slice dA dq dc, .int .u64 X2.R, .slice dB X2.n db, .slice dC X2.n dd] 0 W7d) hb0 rfl
            change WldV ((((((W7d.setCell ⟨ga, 0, none⟩ (.int .i64 X2.T)).setCell ⟨ga, 1, none⟩ (.int .i64 X2.C)).setCell ⟨ga, 2, none⟩ (.slice dA dq dc)).setCell ⟨ga, 3, none⟩ (.int .u64 X2.R)).setCell ⟨ga, 4, none⟩ (.slice dB X2.n db)).setCell ⟨ga, 5, none⟩ (.slice dC X2.n dd)) _ _ at hVd_
            have hsz_ : ((((((W7d.setCell ⟨ga, 0, none⟩ (.int .i64 X2.T)).setCell ⟨ga, 1, none⟩ (.int .i64 X2.C)).setCell ⟨ga, 2, none⟩ (.slice dA dq dc)).setCell ⟨ga, 3, none⟩ (.int .u64 X2.R)).setCell ⟨ga, 4, none⟩ (.slice dB X2.n db)).setCell ⟨ga, 5, none⟩ (.slice dC X2.n dd)).heap.size = W7d.heap.size := by simp [World.setCell]
            generalize ((((((W7d.setCell ⟨ga, 0, none⟩ (.int .i64 X2.T)).setCell ⟨ga, 1, none⟩ (.int .i64 X2.C)).setCell ⟨ga, 2, none⟩ (.slice dA dq dc)).setCell ⟨ga, 3, none⟩ (.int .u64 X2.R)).setCell ⟨ga, 4, none⟩ (.slice dB X2.n db)).setCell ⟨ga, 5, none⟩ (.slice dC X2.n dd)) = wh at *
            go_roundw
            case rel => exact ⟨i + 1, X2, S2, by go_num, by omega, ⟨_, hb0_, hVd_⟩, hp2, hk2, hhe2, hse2, hsz2, hWs_, by rw [hsz_]; exact hgr⟩
            case measure => simp [intOf]; omega
          · go_wp2
            go_roundw
            case rel => exact ⟨i + 1, X1, S1, by go_num, by omega, ⟨_, hb0_, hVc_⟩, hp1, hk1, hhe1, by omega, hsz1, hWs_, hgr_⟩
            case measure => simp [intOf]; omega
        · obtain rfl : i = j := by omega
          have hiI : ¬ (i : Int) < (i : Int) := by omega
          rw [show i - i = 0 by omega] at hhe
          replace hhe : HE i S [] := hhe
          have hbh := behind_three S
          go_wp2
          go_loopw [19] (fun iv wr => ∃ (k : Nat) (Xj : WldK) (S : EpS), iv = .int .i64 (k : Int) ∧ k ≤ 3 ∧ BoxW wr ga Xj ∧ EpK Xj 2 i S ∧ WOk Xj ∧ HE i S [] ∧ S.behind (3 - k) ∧ S.e ≤ i + k ∧ (∀ i, S.P i = 0) ∧ Ext w wr ∧ ga < wr.heap.size) (fun iv _ => 3 - (intOf iv).toNat)
          case atStart => exact ⟨0, Xj, S, rfl, Nat.zero_le _, hbx, hpj, hkj, hhe, hbh, hse, hsz, hWr, hgr⟩
          case round =>
            clear hbx hpj hkj hhe hbh hse hsz hWr hgr
            obtain ⟨k, Xj, S, rfl, hk, hbx, hpj, hkj, hhe, hbh, hse, hsz, hWr, hgr⟩ := hrel
            obtain ⟨bA, bq, bc, bB, bb, bC, bd, hb0, hbV⟩ := hbx.form
            clear hbx
            rcases Nat.lt_or_ge k 3 with hk3 | hk3
            · have hkI : (k : Int) < 3 := by omega
              have hok := okP_zero (t := 2) hsz
              obtain ⟨X1, hp1, hk1, hcon⟩ := eal_adv hpj hkj (me := 0) (by omega) (by omega) 200 (by omega) (by omega)
              rw [decide_eq_true hok, show (((0 : Nat) : Int)) = 0 from rfl, show (((200 : Nat) : Int)) = 200 from rfl] at hcon
              rw [adv_ok hok] at hp1
              have hhe1 := hhe.perm (drain_all S)
              have hse1 : S.drain.e ≤ i + (k + 1) := by show S.e + 1 ≤ _; omega
              have hsz1 : ∀ i, S.drain.P i = 0 := hsz
              have hbh1 : S.drain.behind (3 - (k + 1)) := drain_behind (by rw [show 3 - (k + 1) + 1 = 3 - k by omega]; exact hbh)
              generalize S.drain = S1 at *
              clear hok hpj hhe hse hsz hbh
              have e0 : wr.cell? ⟨ga, 0, none⟩ = some (.int .i64 Xj.T) := by simp [World.cell?, hb0]
              have e1 : wr.cell? ⟨ga, 1, none⟩ = some (.int .i64 Xj.C) := by simp [World.cell?, hb0]
              have e2 : wr.cell? ⟨ga, 2, none⟩ = some (.slice bA bq bc) := by simp [World.cell?, hb0]
              have e3 : wr.cell? ⟨ga, 3, none⟩ = some (.int .u64 Xj.R) := by simp [World.cell?, hb0]
              have e4 : wr.cell? ⟨ga, 4, none⟩ = some (.slice bB Xj.n bb) := by simp [World.cell?, hb0]
              have e5 : wr.cell? ⟨ga, 5, none⟩ = some (.slice bC Xj.n bd) := by simp [World.cell?, hb0]
              go_wp2_with fail
              refine (hcon _ _ _ _ hbV).mono ?_
              rintro e w7c ⟨v_, rfl, hVc, hx_⟩
              obtain ⟨cA, cq, cc, cB, cb, cC, cd, rfl⟩ := hVc.form6
              replace hgr := Nat.lt_of_lt_of_le hgr hx_.size
              clear e0 e1 e2 e3 e4 e5
              replace hb0 := heap_ext hb0 hx_
              replace hbV := hbV.ext hx_
              replace hWr := hWr.trans hx_
              clear hx_
              go_upto_region 29 with (fail)
              obtain ⟨hx_, hbc, hoc⟩ := two_boxes7 w7c (.cells #[.int .i64 X1.T, .int .i64 X1.C, .slice cA cq cc, .int .u64 X1.R, .slice cB X1.n cb, .slice cC X1.n cd] 51) (.cells #[.int .i64 0, .bool true, .int .i64 0, .int .u64 0, .slice none 0 0] 37)
              generalize (w7c.alloc (.cells #[.int .i64 X1.T, .int .i64 X1.C, .slice cA cq cc, .int .u64 X1.R, .slice cB X1.n cb, .slice cC X1.n cd] 51)).alloc (.cells #[.int .i64 0, .bool true, .int .i64 0, .int .u64 0, .slice none 0 0] 37) = W7c at *
              have hgc := hgr
              replace hgr := Nat.lt_of_lt_of_le hgr hx_.size
              generalize w7c.heap.size = gc at *
              replace hb0 := heap_ext hb0 hx_
              replace hbV := hbV.ext hx_
              replace hVc := hVc.ext hx_
              replace hWr := hWr.trans hx_
              clear hx_
              have o0 : W7c.cell? ⟨gc + 1, 0, none⟩ = some (.int .i64 0) := by simp [World.cell?, hoc]
              have o1 : W7c.cell? ⟨gc + 1, 1, none⟩ = some (.bool true) := by simp [World.cell?, hoc]
              have o2 : W7c.cell? ⟨gc + 1, 2, none⟩ = some (.int .i64 0) := by simp [World.cell?, hoc]
              have o3 : W7c.cell? ⟨gc + 1, 3, none⟩ = some (.int .u64 0) := by simp [World.cell?, hoc]
              have o4 : W7c.cell? ⟨gc + 1, 4, none⟩ = some (.slice none 0 0) := by simp [World.cell?, hoc]
              go_upto_region 31 with (fail)
              clear o0 o1 o2 o3 o4
              have nc : ¬ ga = gc := by omega
              have nc' : ¬ gc = ga := by omega
              clear hcon
              have f0 : W7c.cell? ⟨gc, 0, none⟩ = some (.int .i64 X1.T) := by simp [World.cell?, hbc]
              have f1 : W7c.cell? ⟨gc, 1, none⟩ = some (.int .i64 X1.C) := by simp [World.cell?, hbc]
              have f2 : W7c.cell? ⟨gc, 2, none⟩ = some (.slice cA cq cc) := by simp [World.cell?, hbc]
              have f3 : W7c.cell? ⟨gc, 3, none⟩ = some (.int .u64 X1.R) := by simp [World.cell?, hbc]
              have f4 : W7c.cell? ⟨gc, 4, none⟩ = some (.slice cB X1.n cb) := by simp [World.cell?, hbc]
              have f5 : W7c.cell? ⟨gc, 5, none⟩ = some (.slice cC X1.n cd) := by simp [World.cell?, hbc]
              have e0 : W7c.cell? ⟨ga, 0, none⟩ = some (.int .i64 Xj.T) := by simp [World.cell?, hb0]
              have ef0 : W7c.frozen? ⟨ga, 0, none⟩ = false := by simp [World.frozen?, hb0]
              have e1 : W7c.cell? ⟨ga, 1, none⟩ = some (.int .i64 Xj.C) := by simp [World.cell?, hb0]
              have ef1 : W7c.frozen? ⟨ga, 1, none⟩ = false := by simp [World.frozen?, hb0]
              have e2 : W7c.cell? ⟨ga, 2, none⟩ = some (.slice bA bq bc) := by simp [World.cell?, hb0]
              have ef2 : W7c.frozen? ⟨ga, 2, none⟩ = false := by simp [World.frozen?, hb0]
              have e3 : W7c.cell? ⟨ga, 3, none⟩ = some (.int .u64 Xj.R) := by simp [World.cell?, hb0]
              have ef3 : W7c.frozen? ⟨ga, 3, none⟩ = false := by simp [World.frozen?, hb0]
              have e4 : W7c.cell? ⟨ga, 4, none⟩ = some (.slice bB Xj.n bb) := by simp [World.cell?, hb0]
              have ef4 : W7c.frozen? ⟨ga, 4, none⟩ = false := by simp [World.frozen?, hb0]
              have e5 : W7c.cell? ⟨ga, 5, none⟩ = some (.slice bC Xj.n bd) := by simp [World.cell?, hb0]
              have ef5 : W7c.frozen? ⟨ga, 5, none⟩ = false := by simp [World.frozen?, hb0]
              go_wp2
              have hb0_ : ((((((W7c.setCell ⟨ga, 0, none⟩ (.int .i64 X1.T)).setCell ⟨ga, 1, none⟩ (.int .i64 X1.C)).setCell ⟨ga, 2, none⟩ (.slice cA cq cc)).setCell ⟨ga, 3, none⟩ (.int .u64 X1.R)).setCell ⟨ga, 4, none⟩ (.slice cB X1.n cb)).setCell ⟨ga, 5, none⟩ (.slice cC X1.n cd)).heap[ga]? = some (.cells #[.int .i64 X1.T, .int .i64 X1.C, .slice cA cq cc, .int .u64 X1.R, .slice cB X1.n cb, .slice cC X1.n cd] 51 (0, 0)) := setAll_all (vs := [.int .i64 X1.T, .int .i64 X1.C, .slice cA cq cc, .int .u64 X1.R, .slice cB X1.n cb, .slice cC X1.n cd]) hb0 rfl
              have hWs_ : Ext w ((((((W7c.setCell ⟨ga, 0, none⟩ (.int .i64 X1.T)).setCell ⟨ga, 1, none⟩ (.int .i64 X1.C)).setCell ⟨ga, 2, none⟩ (.slice cA cq cc)).setCell ⟨ga, 3, none⟩ (.int .u64 X1.R)).setCell ⟨ga, 4, none⟩ (.slice cB X1.n cb)).setCell ⟨ga, 5, none⟩ (.slice cC X1.n cd)) := setAll_ext (g := ga) (vs := [.int .i64 X1.T, .int .i64 X1.C, .slice cA cq cc, .int .u64 X1.R, .slice cB X1.n cb, .slice cC X1.n cd]) (i := 0) hWr hls
              have hk_ : ∀ g, g ≠ ga → ((((((W7c.setCell ⟨ga, 0, none⟩ (.int .i64 X1.T)).setCell ⟨ga, 1, none⟩ (.int .i64 X1.C)).setCell ⟨ga, 2, none⟩ (.slice cA cq cc)).setCell ⟨ga, 3, none⟩ (.int .u64 X1.R)).setCell ⟨ga, 4, none⟩ (.slice cB X1.n cb)).setCell ⟨ga, 5, none⟩ (.slice cC X1.n cd)).heap[g]? = W7c.heap[g]? := fun g hg => setAll_other (g := ga) (k := g) hg [.int .i64 X1.T, .int .i64 X1.C, .slice cA cq cc, .int .u64 X1.R, .slice cB X1.n cb, .slice cC X1.n cd] 0 W7c
              have hVc_ := hVc.but hk1.2.2 (But.all ga [.int .i64 X1.T, .int .i64 X1.C, .slice cA cq cc, .int .u64 X1.R, .slice cB X1.n cb, .slice cC X1.n cd] 0 W7c) hb0 rfl
              change WldV ((((((W7c.setCell ⟨ga, 0, none⟩ (.int .i64 X1.T)).setCell ⟨ga, 1, none⟩ (.int .i64 X1.C)).setCell ⟨ga, 2, none⟩ (.slice cA cq cc)).setCell ⟨ga, 3, none⟩ (.int .u64 X1.R)).setCell ⟨ga, 4, none⟩ (.slice cB X1.n cb)).setCell ⟨ga, 5, none⟩ (.slice cC X1.n cd)) _ _ at hVc_
              have hsz_ : ((((((W7c.setCell ⟨ga, 0, none⟩ (.int .i64 X1.T)).setCell ⟨ga, 1, none⟩ (.int .i64 X1.C)).setCell ⟨ga, 2, none⟩ (.slice cA cq cc)).setCell ⟨ga, 3, none⟩ (.int .u64 X1.R)).setCell ⟨ga, 4, none⟩ (.slice cB X1.n cb)).setCell ⟨ga, 5, none⟩ (.slice cC X1.n cd)).heap.size = W7c.heap.size := by simp [World.setCell]
              generalize ((((((W7c.setCell ⟨ga, 0, none⟩ (.int .i64 X1.T)).setCell ⟨ga, 1, none⟩ (.int .i64 X1.C)).setCell ⟨ga, 2, none⟩ (.slice cA cq cc)).setCell ⟨ga, 3, none⟩ (.int .u64 X1.R)).setCell ⟨ga, 4, none⟩ (.slice cB X1.n cb)).setCell ⟨ga, 5, none⟩ (.slice cC X1.n cd)) = wg at *
              go_roundw
              case rel => exact ⟨k + 1, X1, S1, by go_num, by omega, ⟨_, hb0_, hVc_⟩, hp1, hk1, hhe1, hbh1, hse1, hsz1, hWs_, by rw [hsz_]; exact hgr⟩
              case measure => simp [intOf]; omega
            · obtain rfl : k = 3 := by omega
              have hkI : ¬ ((3 : Nat) : Int) < 3 := by omega
              have hall := behind_pile hbh
              have hnd := hhe.nodup
              have hrg := hhe.rng
              have hln := hhe.len
              rw [hall, List.append_nil] at hnd hrg
              rw [hall, List.length_nil, Nat.add_zero] at hln
              have hfull : ∀ r : Nat, 1 ≤ r → r ≤ i → ((r : Int)) ∈ S.pile := fun r h1 h2 => nodup_full hnd hrg hln (by omega) (by omega)
              have hcell := fun W h => rfree_any Xj 2 i S.pile hpj.pool bA bq bc W h
              rw [hln] at hcell
              generalize S.pile = pl at *
              have hword := WldV.words hbV
              clear hall hnd hrg hhe hbh hpj
              have e0 : wr.cell? ⟨ga, 0, none⟩ = some (.int .i64 Xj.T) := by simp [World.cell?, hb0]
              have e1 : wr.cell? ⟨ga, 1, none⟩ = some (.int .i64 Xj.C) := by simp [World.cell?, hb0]
              have e2 : wr.cell? ⟨ga, 2, none⟩ = some (.slice bA bq bc) := by simp [World.cell?, hb0]
              have e3 : wr.cell? ⟨ga, 3, none⟩ = some (.int .u64 Xj.R) := by simp [World.cell?, hb0]
              have e4 : wr.cell? ⟨ga, 4, none⟩ = some (.slice bB Xj.n bb) := by simp [World.cell?, hb0]
              have e5 : wr.cell? ⟨ga, 5, none⟩ = some (.slice bC Xj.n bd) := by simp [World.cell?, hb0]
              go_wp2_with fail
              refine (hcell _ hword).mono ?_
              clear hcell hword
              rintro e w3 ⟨fv, rfl, hf1, hx_⟩
              obtain ⟨fB, fc, rfl, hfC, -⟩ := hf1.form
              clear e0 e1 e2 e3 e4 e5
              replace hb0 := heap_ext hb0 hx_
              replace hbV := hbV.ext hx_
              replace hWr := hWr.trans hx_
              clear hx_ hf1 hbV hb0 hgr hse hsz hkj
              go_wp2
              go_loopw [24] (fun rv wy => ∃ r : Nat, rv = .int .i64 (r : Int) ∧ 1 ≤ r ∧ r ≤ i + 1 ∧ Ext w3 wy) (fun rv _ => i + 1 - (intOf rv).toNat)
              case atStart => exact ⟨1, rfl, Nat.le_refl _, by omega, Ext.refl _⟩
              case round =>
                obtain ⟨r, rfl, hr1, hr2, hxy⟩ := hrel
                rcases Nat.lt_or_ge i r with hri | hri
                · have hrI : ¬ (r : Int) ≤ (i : Int) := by omega
                  clear hfull hfC
                  go_wp2
                  go_ret
                  exact ⟨rfl, hWr.trans hxy⟩
                · have hrI : (r : Int) ≤ (i : Int) := by omega
                  have hin := fun W h => rin_any pl fB i fc (r : Int) W hln (by omega) h
                  rw [decide_eq_true (hfull r hr1 hri)] at hin
                  have hfc2 : Cells wr fB (intCells pl) := hfC.ext hxy
                  go_wp2_with fail
                  refine (hin _ hfc2).mono ?_
                  rintro e w4 ⟨rfl, hx4⟩
                  clear hin hfc2
                  have hxy4 := hxy.trans hx4
                  go_wp2
                  go_roundw
                  case rel => exact ⟨r + 1, by go_num, by omega, by omega, hxy4⟩
                  case measure => simp [intOf]; omega
set_option maxRecDepth 100000 in
theorem EpochBack_lifted (os : Os) (started : os.Started) (H : Type) (enc : TypeId × Value → H) :
    ReturnsInHanded {} Try.checked os 7 .any (Rows.epochBackSpec.pre6 enc Try.prog Try.f7 Rows.epochBackRow.domain false) (Rows.epochBackSpec.post enc Try.prog Try.f7 false true false false) := by
  refine law_row os started H enc Rows.epochBackSpec rfl (fun ds h => by
    match ds, h with
    | [_, _], _ => rfl) (by kernel_rfl) Try.func7 rfl
    (by rw [Try.params7]; intro t ht; simp at ht; rcases ht with rfl | rfl <;> exact ⟨by kernel_rfl, of_decide_eq_true (by kernel_rfl)⟩)
    (ChangeSpec.witness6 (enc := enc) (C := Try.checked) false ⟨#[], #[.int .u8 0, .slice none 0 0], []⟩ 8 (by kernel_rfl) (by kernel_rfl) (by kernel_rfl) (by kernel_rfl)) ?_
  intro W base args ds ps hval hA hlt
  rw [Try.params7] at hA hval
  obtain ⟨v0, v1, d0, d1, p0, p1, rfl, rfl, rfl, h0, h1⟩ := trodAll_two hA
  obtain ⟨t, rfl, rfl, rfl, w1⟩ := open_int Try.underlying5 (hval 0 _ v0 rfl rfl) h0
  obtain ⟨M, m, mc, ms, rfl, hM⟩ := open_bytes1 (hval 1 _ v1 rfl rfl) h1
  have b1 := wf_u8 w1
  obtain ⟨tn, rfl⟩ := Int.eq_ofNat_of_zero_le b1.1
  exact eback_walk tn (by omega) M m mc ms W hM
theorem EpochBack_holds : Rows.EpochBackSaid :=
  OpenClaim.holds_of_wide 7 Try.f7 rfl rfl rfl rfl rfl rfl rfl ⟨rfl, rfl, rfl, rfl, rfl⟩ rfl rfl rfl rfl rfl (by kernel_rfl) Try.func7 (by kernel_rfl)
    (of_decide_eq_true (by kernel_rfl)) (by unfold Func.isWrapper; rw [if_neg (of_decide_eq_false (by kernel_rfl))]; exact ⟨rfl, rfl⟩)
    (fun os started H enc _ => EpochBack_lifted os started H enc)
#print axioms EpochBack_holds
end Go.Proofs.Ytjokaginolpbeaa
