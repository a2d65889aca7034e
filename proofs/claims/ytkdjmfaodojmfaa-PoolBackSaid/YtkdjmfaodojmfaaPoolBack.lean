/- Proved: the law PoolBack (alone, a record that is pushed is popped next; what was free stays so, in its order; a memory but for top and links is as it was) returns true at every input and turns none of its arguments. No condition. -/
import Derived.Test.YtkdjmfaodojmfaaPoolBackPartH
import Derived.Test.YtkdjmfaodojmfaaPoolBackPartI
import Derived.Test.YtkdjmfaodojmfaaPoolBackPartG
namespace Go.Proofs.Ytkdjmfaodojmfaa
open Go.ChangeShapes Go.WideShapes Go.ChangeAt Go.RowKit

theorem upFrom_head {r n : Nat} (h : 0 < n) : (upFrom r n).headD 0 = (r : Int) ∧ (upFrom r n).tail = upFrom (r + 1) (n - 1) ∧ upFrom r n ≠ [] := by
  obtain ⟨m, rfl⟩ : ∃ m, n = m + 1 := ⟨n - 1, by omega⟩
  simp [upFrom]
set_option maxRecDepth 100000 in
set_option maxHeartbeats 8000000 in
theorem pback_walk (cn mn : Nat) (hc : cn < 256) (hm : mn < 256) (w : World) :
    Calls Try.prog 6 #[.int .u8 cn, .int .u8 mn] w fun e w' => e = .returned (.bool true) ∧ Ext w w' := by
  have hb1 : ∀ (W : World), (Instr.build 24 #[(0, .int .i64 1)]).run Try.prog W = .ok (.agg #[.int .i64 1, .int .i64 0, .int .i64 0, .int .u64 0]) W := fun _ => by kernel_rfl
  have hb2 : ∀ (W : World) (x : Int), (Instr.build 24 #[(0, .int .i64 2), (1, .int .i64 x)]).run Try.prog W = .ok (.agg #[.int .i64 2, .int .i64 x, .int .i64 0, .int .u64 0]) W := fun _ _ => by kernel_rfl
  have q1 : IntKind.i64.wrap (cn : Int) = (cn : Int) := by rw [IntKind.wrap_i64]; omega
  have q2 : Int.tmod (cn : Int) 9 = (cn : Int) % 9 := by rw [Int.tmod_eq_emod_of_nonneg (by omega)]
  have q3 : IntKind.i64.wrap ((cn : Int) % 9) = (cn : Int) % 9 := by rw [IntKind.wrap_i64]; omega
  have q4 : (1 : Int) + (cn : Int) % 9 = ((1 + cn % 9 : Nat) : Int) := by omega
  have hN : 1 ≤ 1 + cn % 9 ∧ 1 + cn % 9 ≤ 9 := by omega
  generalize 1 + cn % 9 = N at *
  have q5 : IntKind.i64.wrap (mn : Int) = (mn : Int) := by rw [IntKind.wrap_i64]; omega
  have q6 : Int.tmod (mn : Int) (N : Int) = (mn : Int) % (N : Int) := by rw [Int.tmod_eq_emod_of_nonneg (by omega)]
  have hr0 : 0 ≤ (mn : Int) % (N : Int) := Int.emod_nonneg _ (by omega)
  have hr1 : (mn : Int) % (N : Int) < (N : Int) := Int.emod_lt_of_pos _ (by omega)
  have q7 : IntKind.i64.wrap ((mn : Int) % (N : Int)) = (mn : Int) % (N : Int) := by rw [IntKind.wrap_i64]; omega
  have q8 : ¬ (N : Int) = 0 := by omega
  obtain ⟨K, hK⟩ : ∃ K : Nat, (1 : Int) + (mn : Int) % (N : Int) = (K : Int) := ⟨((1 : Int) + (mn : Int) % (N : Int)).toNat, by omega⟩
  have hK1 : 1 ≤ K ∧ K ≤ N := by omega
  clear hr0 hr1 hc hm
  have hnew := fun W => ranew_yes 1 N (by omega) (by omega) (by omega) W
  have hp0 := new_pool (t := 1) (c := N) (by omega) (by omega) (by omega)
  have hk0 := new_wok (t := 1) (c := N) (by omega) (by omega) (by omega)
  generalize newW 1 N = X0 at *
  go_enter Try.func6, Try.ntmps6
  go_wp2_with fail
  refine (shown12_any _).mono ?_
  rintro e w1 ⟨rfl, hW⟩
  go_wp2_with fail
  refine (hnew _).mono ?_
  rintro e w2 ⟨v_, rfl, hVa, hx_⟩
  obtain ⟨aA, aq, ac, aB, ab, aC, ad, rfl⟩ := hVa.form6
  replace hW := hW.trans hx_
  clear hx_ hnew q1 q2 q3 q5 q6 q7 q8
  go_upto_region 5 with (fail)
  have hx_ : Ext w2 (w2.alloc (.cells #[.int .i64 X0.T, .int .i64 X0.C, .slice aA aq ac, .int .u64 X0.R, .slice aB X0.n ab, .slice aC X0.n ad] 51)) := (Below.refl _ w2).alloc (Nat.le_refl _) _
  have hba := heap_alloc_new w2 (.cells #[.int .i64 X0.T, .int .i64 X0.C, .slice aA aq ac, .int .u64 X0.R, .slice aB X0.n ab, .slice aC X0.n ad] 51)
  generalize w2.alloc (.cells #[.int .i64 X0.T, .int .i64 X0.C, .slice aA aq ac, .int .u64 X0.R, .slice aB X0.n ab, .slice aC X0.n ad] 51) = W3 at *
  have hls := hW.size
  generalize w2.heap.size = ga at *
  replace hVa := hVa.ext hx_
  replace hW := hW.trans hx_
  clear hx_
  have hbx : BoxW W3 ga X0 := ⟨_, hba, hVa⟩
  have hlg : ga < W3.heap.size := (Array.getElem?_eq_some_iff.1 hba).1
  clear hba hVa q4 hK
  go_wp2
  go_loopw [9] (fun iv wr => ∃ (j : Nat) (Xj : WldK), iv = .int .i64 (j : Int) ∧ j ≤ K ∧ BoxW wr ga Xj ∧ PoolK Xj 1 N (upFrom (j + 1) (N - j)) ∧ WOk Xj ∧ Ext w wr ∧ ga < wr.heap.size) (fun iv _ => K - (intOf iv).toNat)
  case atStart => exact ⟨0, X0, rfl, Nat.zero_le _, hbx, hp0, hk0, hW, hlg⟩
  case round =>
    obtain ⟨j, Xj, rfl, hj, hbx, hpj, hkj, hWr, hgr⟩ := hrel
    clear hp0 hk0 hW hlg
    obtain ⟨bA, bq, bc, bB, bb, bC, bd, hb0, hbV⟩ := hbx.form
    have e0 : wr.cell? ⟨ga, 0, none⟩ = some (.int .i64 Xj.T) := by simp [World.cell?, hb0]
    have e1 : wr.cell? ⟨ga, 1, none⟩ = some (.int .i64 Xj.C) := by simp [World.cell?, hb0]
    have e2 : wr.cell? ⟨ga, 2, none⟩ = some (.slice bA bq bc) := by simp [World.cell?, hb0]
    have e3 : wr.cell? ⟨ga, 3, none⟩ = some (.int .u64 Xj.R) := by simp [World.cell?, hb0]
    have e4 : wr.cell? ⟨ga, 4, none⟩ = some (.slice bB Xj.n bb) := by simp [World.cell?, hb0]
    have e5 : wr.cell? ⟨ga, 5, none⟩ = some (.slice bC Xj.n bd) := by simp [World.cell?, hb0]
    rcases Nat.lt_or_ge j K with hjK | hjK
    · obtain ⟨hh1, hh2, hh3⟩ := upFrom_head (r := j + 1) (n := N - j) (by omega)
      have hcon := fun W => pal_pop Xj 1 N (upFrom (j + 1) (N - j)) hpj hkj (.agg #[.int .i64 Xj.T, .int .i64 Xj.C, .slice bA bq bc, .int .u64 Xj.R, .slice bB Xj.n bb, .slice bC Xj.n bd]) 0 0 0 0 3 3 rfl (by omega) (by omega) W
      have hp1 := popW_pool hpj
      have hk1 := hkj.popW 1 (upFrom (j + 1) (N - j))
      rw [hh1] at hcon
      rw [hh2] at hp1
      generalize popW Xj 1 (upFrom (j + 1) (N - j)) = X1 at *
      rw [show N - j - 1 = N - (j + 1) by omega] at hp1
      have hjI : (j : Int) < (K : Int) := by omega
      have hjw : (((j + 1 : Nat) : Int)) = (j : Int) + 1 := by omega
      rw [hjw] at hcon
      clear hh1 hh2 hh3 hjw
      go_wp2_with fail
      refine (hcon _ hbV).mono ?_
      clear hcon
      rintro e w3 ⟨v_, rfl, hVc, hx_⟩
      obtain ⟨cA, cq, cc, cB, cb, cC, cd, rfl⟩ := hVc.form6
      replace hgr := Nat.lt_of_lt_of_le hgr hx_.size
      clear e0 e1 e2 e3 e4 e5
      replace hb0 := heap_ext hb0 hx_
      replace hbV := hbV.ext hx_
      replace hWr := hWr.trans hx_
      clear hx_
      go_upto_region 9 with (fail)
      obtain ⟨hx_, hbc, hoc⟩ := two_boxes7 w3 (.cells #[.int .i64 X1.T, .int .i64 X1.C, .slice cA cq cc, .int .u64 X1.R, .slice cB X1.n cb, .slice cC X1.n cd] 51) (.cells #[.int .i64 0, .bool false, .int .i64 ((j : Int) + 1), .int .u64 0, .slice none 0 0] 37)
      generalize (w3.alloc (.cells #[.int .i64 X1.T, .int .i64 X1.C, .slice cA cq cc, .int .u64 X1.R, .slice cB X1.n cb, .slice cC X1.n cd] 51)).alloc (.cells #[.int .i64 0, .bool false, .int .i64 ((j : Int) + 1), .int .u64 0, .slice none 0 0] 37) = W4 at *
      have hgc := hgr
      replace hgr := Nat.lt_of_lt_of_le hgr hx_.size
      generalize w3.heap.size = gc at *
      replace hb0 := heap_ext hb0 hx_
      replace hbV := hbV.ext hx_
      replace hVc := hVc.ext hx_
      replace hWr := hWr.trans hx_
      clear hx_
      have o0 : W4.cell? ⟨gc + 1, 0, none⟩ = some (.int .i64 0) := by simp [World.cell?, hoc]
      have o1 : W4.cell? ⟨gc + 1, 1, none⟩ = some (.bool false) := by simp [World.cell?, hoc]
      have o2 : W4.cell? ⟨gc + 1, 2, none⟩ = some (.int .i64 ((j : Int) + 1)) := by simp [World.cell?, hoc]
      have o3 : W4.cell? ⟨gc + 1, 3, none⟩ = some (.int .u64 0) := by simp [World.cell?, hoc]
      have o4 : W4.cell? ⟨gc + 1, 4, none⟩ = some (.slice none 0 0) := by simp [World.cell?, hoc]
      go_upto_region 11 with (fail)
      clear o0 o1 o2 o3 o4
      have nc : ¬ ga = gc := by omega
      have nc' : ¬ gc = ga := by omega
      have f0 : W4.cell? ⟨gc, 0, none⟩ = some (.int .i64 X1.T) := by simp [World.cell?, hbc]
      have f1 : W4.cell? ⟨gc, 1, none⟩ = some (.int .i64 X1.C) := by simp [World.cell?, hbc]
      have f2 : W4.cell? ⟨gc, 2, none⟩ = some (.slice cA cq cc) := by simp [World.cell?, hbc]
      have f3 : W4.cell? ⟨gc, 3, none⟩ = some (.int .u64 X1.R) := by simp [World.cell?, hbc]
      have f4 : W4.cell? ⟨gc, 4, none⟩ = some (.slice cB X1.n cb) := by simp [World.cell?, hbc]
      have f5 : W4.cell? ⟨gc, 5, none⟩ = some (.slice cC X1.n cd) := by simp [World.cell?, hbc]
      have e0 : W4.cell? ⟨ga, 0, none⟩ = some (.int .i64 Xj.T) := by simp [World.cell?, hb0]
      have ef0 : W4.frozen? ⟨ga, 0, none⟩ = false := by simp [World.frozen?, hb0]
      have e1 : W4.cell? ⟨ga, 1, none⟩ = some (.int .i64 Xj.C) := by simp [World.cell?, hb0]
      have ef1 : W4.frozen? ⟨ga, 1, none⟩ = false := by simp [World.frozen?, hb0]
      have e2 : W4.cell? ⟨ga, 2, none⟩ = some (.slice bA bq bc) := by simp [World.cell?, hb0]
      have ef2 : W4.frozen? ⟨ga, 2, none⟩ = false := by simp [World.frozen?, hb0]
      have e3 : W4.cell? ⟨ga, 3, none⟩ = some (.int .u64 Xj.R) := by simp [World.cell?, hb0]
      have ef3 : W4.frozen? ⟨ga, 3, none⟩ = false := by simp [World.frozen?, hb0]
      have e4 : W4.cell? ⟨ga, 4, none⟩ = some (.slice bB Xj.n bb) := by simp [World.cell?, hb0]
      have ef4 : W4.frozen? ⟨ga, 4, none⟩ = false := by simp [World.frozen?, hb0]
      have e5 : W4.cell? ⟨ga, 5, none⟩ = some (.slice bC Xj.n bd) := by simp [World.cell?, hb0]
      have ef5 : W4.frozen? ⟨ga, 5, none⟩ = false := by simp [World.frozen?, hb0]
      go_wp2
      have hb0_ : ((((((W4.setCell ⟨ga, 0, none⟩ (.int .i64 X1.T)).setCell ⟨ga, 1, none⟩ (.int .i64 X1.C)).setCell ⟨ga, 2, none⟩ (.slice cA cq cc)).setCell ⟨ga, 3, none⟩ (.int .u64 X1.R)).setCell ⟨ga, 4, none⟩ (.slice cB X1.n cb)).setCell ⟨ga, 5, none⟩ (.slice cC X1.n cd)).heap[ga]? = some (.cells #[.int .i64 X1.T, .int .i64 X1.C, .slice cA cq cc, .int .u64 X1.R, .slice cB X1.n cb, .slice cC X1.n cd] 51 (0, 0)) := setAll_all (vs := [.int .i64 X1.T, .int .i64 X1.C, .slice cA cq cc, .int .u64 X1.R, .slice cB X1.n cb, .slice cC X1.n cd]) hb0 rfl
      have hWs_ : Ext w ((((((W4.setCell ⟨ga, 0, none⟩ (.int .i64 X1.T)).setCell ⟨ga, 1, none⟩ (.int .i64 X1.C)).setCell ⟨ga, 2, none⟩ (.slice cA cq cc)).setCell ⟨ga, 3, none⟩ (.int .u64 X1.R)).setCell ⟨ga, 4, none⟩ (.slice cB X1.n cb)).setCell ⟨ga, 5, none⟩ (.slice cC X1.n cd)) := setAll_ext (g := ga) (vs := [.int .i64 X1.T, .int .i64 X1.C, .slice cA cq cc, .int .u64 X1.R, .slice cB X1.n cb, .slice cC X1.n cd]) (i := 0) hWr hls
      have hk_ : ∀ g, g ≠ ga → ((((((W4.setCell ⟨ga, 0, none⟩ (.int .i64 X1.T)).setCell ⟨ga, 1, none⟩ (.int .i64 X1.C)).setCell ⟨ga, 2, none⟩ (.slice cA cq cc)).setCell ⟨ga, 3, none⟩ (.int .u64 X1.R)).setCell ⟨ga, 4, none⟩ (.slice cB X1.n cb)).setCell ⟨ga, 5, none⟩ (.slice cC X1.n cd)).heap[g]? = W4.heap[g]? := fun g hg => setAll_other (g := ga) (k := g) hg [.int .i64 X1.T, .int .i64 X1.C, .slice cA cq cc, .int .u64 X1.R, .slice cB X1.n cb, .slice cC X1.n cd] 0 W4
      have hVc_ := hVc.but hk1.2.2 (But.all ga [.int .i64 X1.T, .int .i64 X1.C, .slice cA cq cc, .int .u64 X1.R, .slice cB X1.n cb, .slice cC X1.n cd] 0 W4) hb0 rfl
      change WldV ((((((W4.setCell ⟨ga, 0, none⟩ (.int .i64 X1.T)).setCell ⟨ga, 1, none⟩ (.int .i64 X1.C)).setCell ⟨ga, 2, none⟩ (.slice cA cq cc)).setCell ⟨ga, 3, none⟩ (.int .u64 X1.R)).setCell ⟨ga, 4, none⟩ (.slice cB X1.n cb)).setCell ⟨ga, 5, none⟩ (.slice cC X1.n cd)) _ _ at hVc_
      have hsz_ : ((((((W4.setCell ⟨ga, 0, none⟩ (.int .i64 X1.T)).setCell ⟨ga, 1, none⟩ (.int .i64 X1.C)).setCell ⟨ga, 2, none⟩ (.slice cA cq cc)).setCell ⟨ga, 3, none⟩ (.int .u64 X1.R)).setCell ⟨ga, 4, none⟩ (.slice cB X1.n cb)).setCell ⟨ga, 5, none⟩ (.slice cC X1.n cd)).heap.size = W4.heap.size := by simp [World.setCell]
      generalize ((((((W4.setCell ⟨ga, 0, none⟩ (.int .i64 X1.T)).setCell ⟨ga, 1, none⟩ (.int .i64 X1.C)).setCell ⟨ga, 2, none⟩ (.slice cA cq cc)).setCell ⟨ga, 3, none⟩ (.int .u64 X1.R)).setCell ⟨ga, 4, none⟩ (.slice cB X1.n cb)).setCell ⟨ga, 5, none⟩ (.slice cC X1.n cd)) = wg at *
      go_roundw
      case rel => exact ⟨j + 1, X1, by go_num, by omega, ⟨_, hb0_, hVc_⟩, hp1, hk1, hWs_, by rw [hsz_]; exact hgr⟩
      case measure => simp [intOf]; omega
    · obtain rfl : j = K := by omega
      have hjI : ¬ (j : Int) < (j : Int) := by omega
      have hnj : ((j : Nat) : Int) ∉ upFrom (j + 1) (N - j) := fun h => by have := upFrom_mem h; omega
      have hp1 := (push_pool hpj (x := (j : Int)) (by omega) (by omega) hnj).1
      have hk1 := hkj.push 1 (j : Int)
      have hcon1 := fun W => pal_push Xj 1 N hpj.dim hkj (.agg #[.int .i64 Xj.T, .int .i64 Xj.C, .slice bA bq bc, .int .u64 Xj.R, .slice bB Xj.n bb, .slice bC Xj.n bd]) 0 (j : Int) 0 0 3 (by omega) (by omega) 3 rfl (by omega) (by omega) W
      generalize pushX Xj 1 (j : Int) = X1 at *
      have hp2 := popW_pool hp1
      have hk2 := hk1.popW 1 ((j : Int) :: upFrom (j + 1) (N - j))
      rw [List.tail_cons] at hp2
      have hdj : ((j : Int) :: upFrom (j + 1) (N - j)).headD 0 = (j : Int) := rfl
      generalize hX2 : popW X1 1 ((j : Int) :: upFrom (j + 1) (N - j)) = X2 at *
      have HX2 := Lib.hid hX2
      have HDJ := Lib.hid hdj
      obtain ⟨L, hL⟩ : ∃ L, upFrom (j + 1) (N - j) = L := ⟨_, rfl⟩
      have HLL := Lib.hid hL
      rw [hL] at hpj hp2
      clear hX2 hdj hnj hL
      have hword := WldV.words hbV
      have hcell1 := fun W h => rfree_any Xj 1 N L hpj bA bq bc W h
      go_wp2_with fail
      refine (hcell1 _ hword).mono ?_
      clear hcell1 hword
      rintro e w3 ⟨fv, rfl, hf1, hx_⟩
      obtain ⟨fB, fc, rfl, -⟩ := hf1.form
      replace hgr := Nat.lt_of_lt_of_le hgr hx_.size
      clear e0 e1 e2 e3 e4 e5
      replace hb0 := heap_ext hb0 hx_
      replace hbV := hbV.ext hx_
      replace hWr := hWr.trans hx_
      clear hx_
      have e0 : w3.cell? ⟨ga, 0, none⟩ = some (.int .i64 Xj.T) := by simp [World.cell?, hb0]
      have e1 : w3.cell? ⟨ga, 1, none⟩ = some (.int .i64 Xj.C) := by simp [World.cell?, hb0]
      have e2 : w3.cell? ⟨ga, 2, none⟩ = some (.slice bA bq bc) := by simp [World.cell?, hb0]
      have e3 : w3.cell? ⟨ga, 3, none⟩ = some (.int .u64 Xj.R) := by simp [World.cell?, hb0]
      have e4 : w3.cell? ⟨ga, 4, none⟩ = some (.slice bB Xj.n bb) := by simp [World.cell?, hb0]
      have e5 : w3.cell? ⟨ga, 5, none⟩ = some (.slice bC Xj.n bd) := by simp [World.cell?, hb0]
      go_wp2_with fail
      refine (hcon1 _ hbV).mono ?_
      clear hcon1
      rintro e w4 ⟨v_, rfl, hVc, hx_⟩
      obtain ⟨cA, cq, cc, cB, cb, cC, cd, rfl⟩ := hVc.form6
      clear e0 e1 e2 e3 e4 e5
      replace hb0 := heap_ext hb0 hx_
      replace hbV := hbV.ext hx_
      replace hf1 := hf1.ext hx_
      replace hWr := hWr.trans hx_
      clear hx_
      go_upto_region 14 with (fail)
      obtain ⟨hx_, hbc, hoc⟩ := two_boxes7 w4 (.cells #[.int .i64 X1.T, .int .i64 X1.C, .slice cA cq cc, .int .u64 X1.R, .slice cB X1.n cb, .slice cC X1.n cd] 51) (.cells #[.int .i64 0, .bool false, .int .i64 0, .int .u64 0, .slice none 0 0] 37)
      generalize (w4.alloc (.cells #[.int .i64 X1.T, .int .i64 X1.C, .slice cA cq cc, .int .u64 X1.R, .slice cB X1.n cb, .slice cC X1.n cd] 51)).alloc (.cells #[.int .i64 0, .bool false, .int .i64 0, .int .u64 0, .slice none 0 0] 37) = W4 at *
      generalize w4.heap.size = gc at *
      replace hb0 := heap_ext hb0 hx_
      replace hbV := hbV.ext hx_
      replace hf1 := hf1.ext hx_
      replace hVc := hVc.ext hx_
      replace hWr := hWr.trans hx_
      clear hx_
      have f0 : W4.cell? ⟨gc, 0, none⟩ = some (.int .i64 X1.T) := by simp [World.cell?, hbc]
      have f1 : W4.cell? ⟨gc, 1, none⟩ = some (.int .i64 X1.C) := by simp [World.cell?, hbc]
      have f2 : W4.cell? ⟨gc, 2, none⟩ = some (.slice cA cq cc) := by simp [World.cell?, hbc]
      have f3 : W4.cell? ⟨gc, 3, none⟩ = some (.int .u64 X1.R) := by simp [World.cell?, hbc]
      have f4 : W4.cell? ⟨gc, 4, none⟩ = some (.slice cB X1.n cb) := by simp [World.cell?, hbc]
      have f5 : W4.cell? ⟨gc, 5, none⟩ = some (.slice cC X1.n cd) := by simp [World.cell?, hbc]
      have hcon2 := fun W => pal_pop X1 1 N _ hp1 hk1 (.agg #[.int .i64 X1.T, .int .i64 X1.C, .slice cA cq cc, .int .u64 X1.R, .slice cB X1.n cb, .slice cC X1.n cd]) 0 0 0 0 3 3 rfl (by omega) (by omega) W
      rw [HDJ.out] at hcon2
      rw [HX2.out] at hcon2
      go_wp2_with fail
      refine (hcon2 _ hVc).mono ?_
      clear hcon2
      rintro e w5 ⟨v_, rfl, hVd, hx_⟩
      obtain ⟨dA, dq, dc, dB, db, dC, dd, rfl⟩ := hVd.form6
      clear f0 f1 f2 f3 f4 f5
      replace hb0 := heap_ext hb0 hx_
      replace hbc := heap_ext hbc hx_
      replace hoc := heap_ext hoc hx_
      replace hbV := hbV.ext hx_
      replace hf1 := hf1.ext hx_
      replace hVc := hVc.ext hx_
      replace hWr := hWr.trans hx_
      clear hx_
      go_upto_region 15 with (fail)
      obtain ⟨hx_, hbd, hod⟩ := two_boxes7 w5 (.cells #[.int .i64 X2.T, .int .i64 X2.C, .slice dA dq dc, .int .u64 X2.R, .slice dB X2.n db, .slice dC X2.n dd] 51) (.cells #[.int .i64 0, .bool false, .int .i64 (j : Int), .int .u64 0, .slice none 0 0] 37)
      generalize (w5.alloc (.cells #[.int .i64 X2.T, .int .i64 X2.C, .slice dA dq dc, .int .u64 X2.R, .slice dB X2.n db, .slice dC X2.n dd] 51)).alloc (.cells #[.int .i64 0, .bool false, .int .i64 (j : Int), .int .u64 0, .slice none 0 0] 37) = W5 at *
      generalize w5.heap.size = gd at *
      replace hb0 := heap_ext hb0 hx_
      replace hbc := heap_ext hbc hx_
      replace hoc := heap_ext hoc hx_
      replace hbV := hbV.ext hx_
      replace hf1 := hf1.ext hx_
      replace hVc := hVc.ext hx_
      replace hVd := hVd.ext hx_
      replace hWr := hWr.trans hx_
      clear hx_
      have f0 : W5.cell? ⟨gd, 0, none⟩ = some (.int .i64 X2.T) := by simp [World.cell?, hbd]
      have f1 : W5.cell? ⟨gd, 1, none⟩ = some (.int .i64 X2.C) := by simp [World.cell?, hbd]
      have f2 : W5.cell? ⟨gd, 2, none⟩ = some (.slice dA dq dc) := by simp [World.cell?, hbd]
      have f3 : W5.cell? ⟨gd, 3, none⟩ = some (.int .u64 X2.R) := by simp [World.cell?, hbd]
      have f4 : W5.cell? ⟨gd, 4, none⟩ = some (.slice dB X2.n db) := by simp [World.cell?, hbd]
      have f5 : W5.cell? ⟨gd, 5, none⟩ = some (.slice dC X2.n dd) := by simp [World.cell?, hbd]
      have hword := WldV.words hVd
      have hcell2 := fun W h => rfree_any X2 1 N L hp2 dA dq dc W h
      go_wp2_with fail
      refine (hcell2 _ hword).mono ?_
      clear hcell2 hword
      rintro e w6 ⟨fw, rfl, hf2, hx_⟩
      obtain ⟨hB, hc, rfl, -⟩ := hf2.form
      clear f0 f1 f2 f3 f4 f5
      replace hb0 := heap_ext hb0 hx_
      replace hbc := heap_ext hbc hx_
      replace hoc := heap_ext hoc hx_
      replace hbd := heap_ext hbd hx_
      replace hod := heap_ext hod hx_
      replace hbV := hbV.ext hx_
      replace hf1 := hf1.ext hx_
      replace hVc := hVc.ext hx_
      replace hVd := hVd.ext hx_
      replace hWr := hWr.trans hx_
      clear hx_
      have o0 : w6.cell? ⟨gd + 1, 0, none⟩ = some (.int .i64 0) := by simp [World.cell?, hod]
      have o1 : w6.cell? ⟨gd + 1, 1, none⟩ = some (.bool false) := by simp [World.cell?, hod]
      have o2 : w6.cell? ⟨gd + 1, 2, none⟩ = some (.int .i64 (j : Int)) := by simp [World.cell?, hod]
      have o3 : w6.cell? ⟨gd + 1, 3, none⟩ = some (.int .u64 0) := by simp [World.cell?, hod]
      have o4 : w6.cell? ⟨gd + 1, 4, none⟩ = some (.slice none 0 0) := by simp [World.cell?, hod]
      have hlL : (L.length : Int) < 9223372036854775807 := by
        have := hp2.len
        omega
      clear hbx hpj hp1 hp2 hkj hk1 hk2 hb0 hbV hbc hoc hVc hbd hVd HX2 HDJ HLL
      go_wp2
      go_loopw [21] (fun iv wy => ∃ i : Nat, iv = .int .i64 (i : Int) ∧ i ≤ L.length ∧ Ext w6 wy) (fun iv _ => L.length - (intOf iv).toNat)
      case atStart => exact ⟨0, rfl, Nat.zero_le _, Ext.refl _⟩
      case round =>
        obtain ⟨i, rfl, hi, hxy⟩ := hrel
        rcases Nat.lt_or_ge i L.length with hiL | hiL
        · have hiI : (i : Int) < (L.length : Int) := by omega
          obtain ⟨x, hx⟩ : ∃ x, L[i]? = some x := ⟨_, List.getElem?_eq_getElem hiL⟩
          obtain ⟨g1, c1, e1, -, -, -, hc1⟩ := hf1.at hx
          obtain ⟨g2, c2, e2, -, -, -, hc2⟩ := hf2.at hx
          cases e1
          cases e2
          have hX : ∀ wx, Ext wr wx → wx.cell? ⟨g1, i, none⟩ = some (.int .i64 x) ∧ wx.cell? ⟨g2, i, none⟩ = some (.int .i64 x) := fun wx hx => ⟨(hxy.trans hx).cell hc1, (hxy.trans hx).cell hc2⟩
          clear hc1 hc2 hf1 hf2
          go_wp2
          refine' wp_region_sure_all ⟨((some 102, [], none) :: (some 103, [], none) :: (some 104, [0, 1], none) :: (some 105, [2], none) :: (some 106, [], none) :: (some 107, [], none) :: (some 108, [4, 5], none) :: (some 109, [6], none) :: (some 110, [3, 7], none) :: []), (0 :: 0 :: 3 :: 7 :: 0 :: 0 :: 48 :: 112 :: 255 :: []), (true :: true :: true :: true :: true :: true :: true :: true :: true :: []), [], 0⟩ 9 112 ((0, 102) :: (1, 103) :: (2, 104) :: (3, 105) :: (4, 106) :: (5, 107) :: (6, 108) :: (7, 109) :: (8, 110) :: []) ((0, 102) :: (1, 103) :: (2, 104) :: (3, 105) :: (4, 106) :: (5, 107) :: (6, 108) :: (7, 109) :: (8, 110) :: []) (.det _ :: .det _ :: .det _ :: .det _ :: .det _ :: .det _ :: .det _ :: .det _ :: .det _ :: []) (by kernel_rfl) (by kernel_rfl) (by kernel_rfl) rfl (by kernel_rfl) (by kernel_rfl) rfl (by kernel_rfl) ?hone ?hend
          case hone =>
            intro CS frS VS hCS ha hV
            have qs13 := slot_val (t := 13) ha rfl
            simp only [List.getElem_toArray, List.getElem_cons_succ, List.getElem_cons_zero] at qs13
            have qs20 := slot_val (t := 20) ha rfl
            simp only [List.getElem_toArray, List.getElem_cons_succ, List.getElem_cons_zero] at qs20
            have qs21 := slot_val (t := 21) ha rfl
            simp only [List.getElem_toArray, List.getElem_cons_succ, List.getElem_cons_zero] at qs21
            have HCS := Lib.hid hCS
            have HVS := Lib.hid hV
            clear ha hCS hV
            -- 0: slot 102 := Op.move t20
            refine sure_det (js := []) (ts := [20]) (gd := none) (place_at HVS.out (k := 0) rfl) (by rw [HCS.out]; kernel_rfl) ?_ ?_
            · intro wx hx ρ hρ hs hf
              have hρc := hρ.const
              have hρf := hρ.func
              obtain ⟨fx20, -⟩ := hf
              rw [qs20] at fx20
              clear hs
              clear HCS HVS qs13 qs20 qs21
              refine run_plain ?_
              refine op_move rfl fx20 ?_
              exact detK.mk
            -- 1: slot 103 := Op.move t21
            refine sure_det (js := []) (ts := [21]) (gd := none) (place_at HVS.out (k := 1) rfl) (by rw [HCS.out]; kernel_rfl) ?_ ?_
            · intro wx hx ρ hρ hs hf
              have hρc := hρ.const
              have hρf := hρ.func
              obtain ⟨fx21, -⟩ := hf
              rw [qs21] at fx21
              clear hs
              clear HCS HVS qs13 qs20 qs21
              refine run_plain ?_
              refine op_move rfl fx21 ?_
              exact detK.mk
            -- 2: slot 104 := Op.indexAddr 35 t102 t103
            refine sure_det (js := [(0, 102), (1, 103)]) (ts := []) (gd := none) (place_at HVS.out (k := 2) rfl) (by rw [HCS.out]; kernel_rfl) ?_ ?_
            · intro wx hx ρ hρ hs hf
              have hρc := hρ.const
              have hρf := hρ.func
              obtain ⟨sn0, sn1, -⟩ := hs
              rw [place_at HVS.out (k := 0) rfl] at sn0
              replace sn0 : ρ (.tmp 102) = _ := sn0
              rw [place_at HVS.out (k := 1) rfl] at sn1
              replace sn1 : ρ (.tmp 103) = _ := sn1
              clear hf
              clear HCS HVS qs13 qs20 qs21
              refine run_plain ?_
              unfold runs
              go_simp
              exact detK.mk
            -- 3: slot 105 := Op.load 3 t104
            refine sure_det (js := [(2, 104)]) (ts := []) (gd := none) (place_at HVS.out (k := 3) rfl) (by rw [HCS.out]; kernel_rfl) ?_ ?_
            · intro wx hx ρ hρ hs hf
              have hρc := hρ.const
              have hρf := hρ.func
              obtain ⟨sn2, -⟩ := hs
              rw [place_at HVS.out (k := 2) rfl] at sn2
              replace sn2 : ρ (.tmp 104) = _ := sn2
              clear hf
              clear HCS HVS qs13 qs20 qs21
              refine run_plain ?_
              obtain ⟨p0, p1⟩ := hX wx hx.drawn
              unfold runs
              go_simp
              exact detK.mk
            -- 4: slot 106 := Op.move t13
            refine sure_det (js := []) (ts := [13]) (gd := none) (place_at HVS.out (k := 4) rfl) (by rw [HCS.out]; kernel_rfl) ?_ ?_
            · intro wx hx ρ hρ hs hf
              have hρc := hρ.const
              have hρf := hρ.func
              obtain ⟨fx13, -⟩ := hf
              rw [qs13] at fx13
              clear hs
              clear HCS HVS qs13 qs20 qs21
              refine run_plain ?_
              refine op_move rfl fx13 ?_
              exact detK.mk
            -- 5: slot 107 := Op.move t21
            refine sure_det (js := []) (ts := [21]) (gd := none) (place_at HVS.out (k := 5) rfl) (by rw [HCS.out]; kernel_rfl) ?_ ?_
            · intro wx hx ρ hρ hs hf
              have hρc := hρ.const
              have hρf := hρ.func
              obtain ⟨fx21, -⟩ := hf
              rw [qs21] at fx21
              clear hs
              clear HCS HVS qs13 qs20 qs21
              refine run_plain ?_
              refine op_move rfl fx21 ?_
              exact detK.mk
            -- 6: slot 108 := Op.indexAddr 35 t106 t107
            refine sure_det (js := [(4, 106), (5, 107)]) (ts := []) (gd := none) (place_at HVS.out (k := 6) rfl) (by rw [HCS.out]; kernel_rfl) ?_ ?_
            · intro wx hx ρ hρ hs hf
              have hρc := hρ.const
              have hρf := hρ.func
              obtain ⟨sn4, sn5, -⟩ := hs
              rw [place_at HVS.out (k := 4) rfl] at sn4
              replace sn4 : ρ (.tmp 106) = _ := sn4
              rw [place_at HVS.out (k := 5) rfl] at sn5
              replace sn5 : ρ (.tmp 107) = _ := sn5
              clear hf
              clear HCS HVS qs13 qs20 qs21
              refine run_plain ?_
              unfold runs
              go_simp
              exact detK.mk
            -- 7: slot 109 := Op.load 3 t108
            refine sure_det (js := [(6, 108)]) (ts := []) (gd := none) (place_at HVS.out (k := 7) rfl) (by rw [HCS.out]; kernel_rfl) ?_ ?_
            · intro wx hx ρ hρ hs hf
              have hρc := hρ.const
              have hρf := hρ.func
              obtain ⟨sn6, -⟩ := hs
              rw [place_at HVS.out (k := 6) rfl] at sn6
              replace sn6 : ρ (.tmp 108) = _ := sn6
              clear hf
              clear HCS HVS qs13 qs20 qs21
              refine run_plain ?_
              obtain ⟨p0, p1⟩ := hX wx hx.drawn
              unfold runs
              go_simp
              exact detK.mk
            -- 8: slot 110 := Op.binOp BinOp.neq 3 t105 t109 3
            refine sure_det (js := [(3, 105), (7, 109)]) (ts := []) (gd := none) (place_at HVS.out (k := 8) rfl) (by rw [HCS.out]; kernel_rfl) ?_ ?_
            · intro wx hx ρ hρ hs hf
              have hρc := hρ.const
              have hρf := hρ.func
              obtain ⟨sn3, sn7, -⟩ := hs
              rw [place_at HVS.out (k := 3) rfl] at sn3
              replace sn3 : ρ (.tmp 105) = _ := sn3
              rw [place_at HVS.out (k := 7) rfl] at sn7
              replace sn7 : ρ (.tmp 109) = _ := sn7
              clear hf
              clear HCS HVS qs13 qs20 qs21
              refine run_plain ?_
              unfold runs
              go_simp
              exact detK.mk
            exact trivial
          case hend =>
            intro xs wx hx hg
            have gk0 : xs 0 = _ := goods_get hg (i := 0) (j := 0) (d := 102) rfl
            have gk1 : xs 1 = _ := goods_get hg (i := 1) (j := 1) (d := 103) rfl
            have gk2 : xs 2 = _ := goods_get hg (i := 2) (j := 2) (d := 104) rfl
            have gk3 : xs 3 = _ := goods_get hg (i := 3) (j := 3) (d := 105) rfl
            have gk4 : xs 4 = _ := goods_get hg (i := 4) (j := 4) (d := 106) rfl
            have gk5 : xs 5 = _ := goods_get hg (i := 5) (j := 5) (d := 107) rfl
            have gk6 : xs 6 = _ := goods_get hg (i := 6) (j := 6) (d := 108) rfl
            have gk7 : xs 7 = _ := goods_get hg (i := 7) (j := 7) (d := 109) rfl
            have gk8 : xs 8 = _ := goods_get hg (i := 8) (j := 8) (d := 110) rfl
            clear hg
            simp only [putAll, gk0, gk1, gk2, gk3, gk4, gk5, gk6, gk7, gk8]
            clear gk0 gk1 gk2 gk3 gk4 gk5 gk6 gk7 gk8
            clear xs
            simp only [Act.put, List.setIfInBounds_toArray, List.set_cons_zero, List.set_cons_succ]
            go_wp2
            go_roundw
            case rel => exact ⟨i + 1, by go_num, by omega, hxy.trans hx.drawn⟩
            case measure => simp [intOf]; omega
        · obtain rfl : i = L.length := by omega
          go_wp2
          go_ret
          exact ⟨rfl, hWr.trans hxy⟩
set_option maxRecDepth 100000 in
theorem PoolBack_lifted (os : Os) (started : os.Started) (H : Type) (enc : TypeId × Value → H) :
    ReturnsInHanded {} Try.checked os 6 .any (Rows.poolBackSpec.pre6 enc Try.prog Try.f6 Rows.poolBackRow.domain false) (Rows.poolBackSpec.post enc Try.prog Try.f6 false true false false) := by
  refine law_row os started H enc Rows.poolBackSpec rfl (fun ds h => by
    match ds, h with
    | [_, _], _ => rfl) (by kernel_rfl) Try.func6 rfl
    (by rw [Try.params6]; intro t ht; simp at ht; subst ht; exact ⟨by kernel_rfl, of_decide_eq_true (by kernel_rfl)⟩)
    (ChangeSpec.witness6 (enc := enc) (C := Try.checked) false ⟨#[], #[.int .u8 0, .int .u8 0], []⟩ 8 (by kernel_rfl) (by kernel_rfl) (by kernel_rfl) (by kernel_rfl)) ?_
  intro W base args ds ps hval hA hlt
  rw [Try.params6] at hA hval
  obtain ⟨v0, v1, d0, d1, p0, p1, rfl, rfl, rfl, h0, h1⟩ := trodAll_two hA
  obtain ⟨t, rfl, rfl, rfl, w1⟩ := open_int Try.underlying5 (hval 0 _ v0 rfl rfl) h0
  obtain ⟨c, rfl, rfl, rfl, w2⟩ := open_int Try.underlying5 (hval 1 _ v1 rfl rfl) h1
  have b1 := wf_u8 w1
  have b2 := wf_u8 w2
  obtain ⟨tn, rfl⟩ := Int.eq_ofNat_of_zero_le b1.1
  obtain ⟨cn, rfl⟩ := Int.eq_ofNat_of_zero_le b2.1
  exact pback_walk tn cn (by omega) (by omega) W
theorem PoolBack_holds : Rows.PoolBackSaid :=
  OpenClaim.holds_of_wide 6 Try.f6 rfl rfl rfl rfl rfl rfl rfl ⟨rfl, rfl, rfl, rfl, rfl⟩ rfl rfl rfl rfl rfl (by kernel_rfl) Try.func6 (by kernel_rfl)
    (of_decide_eq_true (by kernel_rfl)) (by unfold Func.isWrapper; rw [if_neg (of_decide_eq_false (by kernel_rfl))]; exact ⟨rfl, rfl⟩)
    (fun os started H enc _ => PoolBack_lifted os started H enc)
#print axioms PoolBack_holds
end Go.Proofs.Ytkdjmfaodojmfaa
