/- Proved: the law PoolTag (each Pop of a record, and each Push, moves the top's tag on by one, and no Pop of none does) returns true at every input and turns none of its arguments. No condition. -/
import Derived.Test.YtkdjmfaodojmfaaPoolTagPartH
import Derived.Test.YtkdjmfaodojmfaaPoolTagPartI
import Derived.Test.YtkdjmfaodojmfaaPoolTagPartG
namespace Go.Proofs.Ytkdjmfaodojmfaa
open Go.ChangeShapes Go.WideShapes Go.ChangeAt Go.RowKit

set_option maxRecDepth 100000 in
set_option maxHeartbeats 20000000 in
theorem ptag_walk (cn : Nat) (hc : cn < 256) (M : Option Addr) (m mc : Nat) (ms : List UInt8) (w : World) (hM : BytesV w M m mc ms) :
    Calls Try.prog 5 #[.int .u8 cn, .slice M m mc] w fun e w' => e = .returned (.bool true) ∧ Ext w w' := by
  have hmk := Nat.le_trans hM.le hM.cap
  simp only [maxLen] at hmk
  obtain ⟨i0, hi0, hz0, hz1, hz2⟩ := info_parts info_i64
  have hr1 : ∀ (W : World) (a : Int), (Instr.buildSlice 35 1 #[(0, .int .i64 a)]).run Try.prog W = .ok (.slice (some ⟨W.heap.size, 0, none⟩) 1 1) (W.alloc (.cells #[.int .i64 a] 3)) := fun _ _ => by kernel_rfl
  have hb1 : ∀ (W : World), (Instr.build 24 #[(0, .int .i64 1)]).run Try.prog W = .ok (.agg #[.int .i64 1, .int .i64 0, .int .i64 0, .int .u64 0]) W := fun _ => by kernel_rfl
  have hb2 : ∀ (W : World) (x : Int), (Instr.build 24 #[(0, .int .i64 2), (1, .int .i64 x)]).run Try.prog W = .ok (.agg #[.int .i64 2, .int .i64 x, .int .i64 0, .int .u64 0]) W := fun _ _ => by kernel_rfl
  have q1 : IntKind.i64.wrap (cn : Int) = (cn : Int) := by rw [IntKind.wrap_i64]; omega
  have q2 : Int.tmod (cn : Int) 9 = (cn : Int) % 9 := by rw [Int.tmod_eq_emod_of_nonneg (by omega)]
  have q3 : IntKind.i64.wrap ((cn : Int) % 9) = (cn : Int) % 9 := by rw [IntKind.wrap_i64]; omega
  have q4 : (cn : Int) % 9 = ((cn % 9 : Nat) : Int) := by omega
  have hN : cn % 9 ≤ 8 := by omega
  generalize cn % 9 = N at *
  have hnew := fun W => ranew_yes 1 N (by omega) (by omega) (by omega) W
  have hp0 := new_pool (t := 1) (c := N) (by omega) (by omega) (by omega)
  have hk0 := new_wok (t := 1) (c := N) (by omega) (by omega) (by omega)
  have hh0 := HK.new N
  have ht0 : tagF ((newW 1 N).at 1) = ((0 : Nat) : Int) := by
    have := new_at 1 N 1 (by unfold memL; omega)
    rw [newF_head] at this
    rw [show (newW 1 N).at 1 = _ from this]
    unfold tagF; omega
  generalize newW 1 N = X0 at *
  go_enter Try.func5, Try.ntmps5
  go_wp2_with fail
  refine (shown12_any _).mono ?_
  rintro e w1 ⟨rfl, hW⟩
  rcases (Decidable.em (m ≤ 40)).symm with h6 | h6
  · have h6' : (40 : Int) < (m : Int) := by omega
    go_wp2
    go_ret
    exact ⟨rfl, hW⟩
  have h6' : ¬ (40 : Int) < (m : Int) := by omega
  go_wp2_with fail
  refine (hnew _).mono ?_
  rintro e w2 ⟨v_, rfl, hVa, hx_⟩
  obtain ⟨aA, aq, ac, aB, ab, aC, ad, rfl⟩ := hVa.form6
  replace hW := hW.trans hx_
  clear hx_ hnew q1 q2 q3
  go_upto_region 6 with (fail)
  have hx_ : Ext w2 (w2.alloc (.cells #[.int .i64 X0.T, .int .i64 X0.C, .slice aA aq ac, .int .u64 X0.R, .slice aB X0.n ab, .slice aC X0.n ad] 51)) := (Below.refl _ w2).alloc (Nat.le_refl _) _
  have hba := heap_alloc_new w2 (.cells #[.int .i64 X0.T, .int .i64 X0.C, .slice aA aq ac, .int .u64 X0.R, .slice aB X0.n ab, .slice aC X0.n ad] 51)
  generalize w2.alloc (.cells #[.int .i64 X0.T, .int .i64 X0.C, .slice aA aq ac, .int .u64 X0.R, .slice aB X0.n ab, .slice aC X0.n ad] 51) = W3 at *
  have hls := hW.size
  generalize w2.heap.size = ga at *
  replace hVa := hVa.ext hx_
  replace hW := hW.trans hx_
  clear hx_
  have hbx : BoxW W3 ga X0 := ⟨_, hba, hVa⟩
  obtain ⟨gs, hgs⟩ : ∃ gs, gs = W3.heap.size := ⟨_, rfl⟩
  have hlg : ga < gs := by rw [hgs]; exact (Array.getElem?_eq_some_iff.1 hba).1
  have hgr : gs ≤ W3.heap.size := Nat.le_of_eq hgs
  have hls2 : w.heap.size ≤ gs := by omega
  clear hba hVa hgs
  go_wp2
  go_loopw [8, 9, 10] (fun hv tv iv wr => ∃ (j τ : Nat) (Xj : WldK) (pile held : List Int), iv = .int .i64 (j : Int) ∧ j ≤ m ∧ tv = .int .u64 (τ : Int) ∧ τ ≤ j ∧ BoxW wr ga Xj ∧ PoolK Xj 1 N pile ∧ WOk Xj ∧ HK N pile held ∧ tagF (Xj.at 1) = (τ : Int) ∧ IntOwn wr gs hv held.length held ∧ Ext w wr ∧ gs ≤ wr.heap.size) (fun _ _ iv _ => m - (intOf iv).toNat)
  case atStart => exact ⟨0, 0, X0, upFrom 1 N, [], rfl, Nat.zero_le _, rfl, Nat.le_refl _, hbx, hp0, hk0, hh0, ht0, IntOwn.nil _ _, hW, hgr⟩
  case round =>
    obtain ⟨j, τ, Xj, pile, held, rfl, hj, rfl, hτ, hbx, hpj, hkj, hhk, htj, hown, hWr, hgr⟩ := hrel
    clear hp0 hk0 hh0 ht0 hW
    have HT := Lib.hid htj
    have hhN := hhk.len
    have hpN := hpj.len
    clear htj
    obtain ⟨bA, bq, bc, bB, bb, bC, bd, hb0, hbV⟩ := hbx.form
    obtain ⟨hvB, hvc, rfl, -, -, -, hle1, hle2⟩ := hown.form
    simp only [maxLen] at hle2
    rcases (Nat.lt_or_ge j m).symm with hjm | hjm
    · obtain rfl : j = m := by omega
      have e0 : wr.cell? ⟨ga, 0, none⟩ = some (.int .i64 Xj.T) := by simp [World.cell?, hb0]
      have e1 : wr.cell? ⟨ga, 1, none⟩ = some (.int .i64 Xj.C) := by simp [World.cell?, hb0]
      have e2 : wr.cell? ⟨ga, 2, none⟩ = some (.slice bA bq bc) := by simp [World.cell?, hb0]
      have e3 : wr.cell? ⟨ga, 3, none⟩ = some (.int .u64 Xj.R) := by simp [World.cell?, hb0]
      have e4 : wr.cell? ⟨ga, 4, none⟩ = some (.slice bB Xj.n bb) := by simp [World.cell?, hb0]
      have e5 : wr.cell? ⟨ga, 5, none⟩ = some (.slice bC Xj.n bd) := by simp [World.cell?, hb0]
      have hjI : ¬ (j : Int) < (j : Int) := by omega
      have hlen2 : (pile.length : Int) = (N : Int) - (held.length : Int) := by omega
      have hword := WldV.words hbV
      have hcell := fun W h => rfree_any Xj 1 N pile hpj bA bq bc W h
      go_wp2_with fail
      refine (hcell _ hword).mono ?_
      clear hcell hword
      rintro e w3 ⟨fv, rfl, hf1, hx_⟩
      obtain ⟨fB, fc, rfl, -⟩ := hf1.form
      clear hf1 hbx hbV hb0 hown HT hpj hkj hhk
      clear e0 e1 e2 e3 e4 e5
      go_wp2
      go_ret
      exact ⟨rfl, hWr.trans hx_⟩
    have hjI : (j : Int) < (m : Int) := by omega
    obtain ⟨ad, z, rfl, hcz, hzz⟩ := bytes_cell (hM.ext hWr) hjm
    have hy2 : Int.tmod (z : Int) 2 = (z : Int) % 2 := by rw [Int.tmod_eq_emod_of_nonneg (by omega)]
    have hy3 : IntKind.u8.wrap ((z : Int) % 2) = (z : Int) % 2 := by rw [IntKind.wrap_u8]; omega
    have hway : ((z : Int) % 2 = 1 ∧ 0 < held.length) ∨ (¬ (z : Int) % 2 = 1) ∨ ((z : Int) % 2 = 1 ∧ held.length = 0) := by omega
    rcases hway with ⟨hy1, hh1⟩ | hy1 | ⟨hy1, hh1⟩
    · obtain ⟨x, hspl, hlx⟩ := last_split hh1
      have hps := HK.push (h1 := held.dropLast) (h2 := []) (by rw [← hspl]; exact hhk)
      rw [List.append_nil] at hps
      obtain ⟨hhk1, hxn, hx1, hxN⟩ := hps
      have hpp := push_pool hpj hx1 hxN hxn
      have hk1 := hkj.push 1 x
      have hcon := fun W => pal_push Xj 1 N hpj.dim hkj (.agg #[.int .i64 Xj.T, .int .i64 Xj.C, .slice bA bq bc, .int .u64 Xj.R, .slice bB Xj.n bb, .slice bC Xj.n bd]) 0 x 0 0 3 hx1 hxN 3 rfl (by omega) (by omega) W
      generalize pushX Xj 1 x = X1 at *
      obtain ⟨hp1, ht1⟩ := hpp
      have ht2 : tagF (X1.at 1) = ((τ + 1 : Nat) : Int) := by rw [ht1, HT.out]; omega
      obtain ⟨g1, c1, e1, hg1, -, -, hcl⟩ := hown.at hlx
      cases e1
      obtain ⟨n1, hn1⟩ : ∃ n1, held.length = n1 + 1 := ⟨held.length - 1, by omega⟩
      have hnI : (held.length : Int) - 1 = (n1 : Int) := by omega
      rw [hn1, Nat.add_sub_cancel] at hcl
      have hhI : (0 : Int) < (held.length : Int) := by omega
      have hnL : (n1 : Int) < (held.length : Int) := by omega
      have hnc : (n1 : Int) ≤ (hvc : Int) := by omega
      have hn0 : (0 : Int) ≤ (n1 : Int) := by omega
      have HN1 := Lib.hid hn1
      clear hn1 hspl hlx
      go_upto_region 12 with (fail)
      have hx_ : Ext wr (wr.alloc (.cells #[.int .i64 1, .int .i64 0, .int .i64 0, .int .u64 0] 24)) := (Below.refl _ wr).alloc (Nat.le_refl _) _
      have hop := heap_alloc_new wr (.cells #[.int .i64 1, .int .i64 0, .int .i64 0, .int .u64 0] 24)
      generalize wr.alloc (.cells #[.int .i64 1, .int .i64 0, .int .i64 0, .int .u64 0] 24) = W4 at *
      have hgp := hgr
      replace hgr := Nat.le_trans hgr hx_.size
      generalize wr.heap.size = gp at *
      replace hb0 := heap_ext hb0 hx_
      replace hbV := hbV.ext hx_
      replace hown := hown.ext hx_
      replace hWr := hWr.trans hx_
      replace hcz := hx_.cell hcz
      replace hcl := hx_.cell hcl
      clear hx_
      have o0 : W4.cell? ⟨gp, 0, none⟩ = some (.int .i64 1) := by simp [World.cell?, hop]
      have of0 : W4.frozen? ⟨gp, 0, none⟩ = false := by simp [World.frozen?, hop]
      have o1 : W4.cell? ⟨gp, 1, none⟩ = some (.int .i64 0) := by simp [World.cell?, hop]
      have of1 : W4.frozen? ⟨gp, 1, none⟩ = false := by simp [World.frozen?, hop]
      have o2 : W4.cell? ⟨gp, 2, none⟩ = some (.int .i64 0) := by simp [World.cell?, hop]
      have of2 : W4.frozen? ⟨gp, 2, none⟩ = false := by simp [World.frozen?, hop]
      have o3 : W4.cell? ⟨gp, 3, none⟩ = some (.int .u64 0) := by simp [World.cell?, hop]
      have of3 : W4.frozen? ⟨gp, 3, none⟩ = false := by simp [World.frozen?, hop]
      have e0 : W4.cell? ⟨ga, 0, none⟩ = some (.int .i64 Xj.T) := by simp [World.cell?, hb0]
      have e1 : W4.cell? ⟨ga, 1, none⟩ = some (.int .i64 Xj.C) := by simp [World.cell?, hb0]
      have e2 : W4.cell? ⟨ga, 2, none⟩ = some (.slice bA bq bc) := by simp [World.cell?, hb0]
      have e3 : W4.cell? ⟨ga, 3, none⟩ = some (.int .u64 Xj.R) := by simp [World.cell?, hb0]
      have e4 : W4.cell? ⟨ga, 4, none⟩ = some (.slice bB Xj.n bb) := by simp [World.cell?, hb0]
      have e5 : W4.cell? ⟨ga, 5, none⟩ = some (.slice bC Xj.n bd) := by simp [World.cell?, hb0]
      have np : ¬ ga = gp := by omega
      have np' : ¬ gp = ga := by omega
      have hgl := (hown.lt (k := g1) rfl)
      go_upto_region 14 with (fail)
      have hop2 : ((((W4.setCell ⟨gp, 0, none⟩ (.int .i64 2)).setCell ⟨gp, 1, none⟩ (.int .i64 x)).setCell ⟨gp, 2, none⟩ (.int .i64 0)).setCell ⟨gp, 3, none⟩ (.int .u64 0)).heap[gp]? = some (.cells #[.int .i64 2, .int .i64 x, .int .i64 0, .int .u64 0] 24 (0, 0)) := setAll_all (vs := [.int .i64 2, .int .i64 x, .int .i64 0, .int .u64 0]) hop rfl
      have hk_ : ∀ g, g ≠ gp → ((((W4.setCell ⟨gp, 0, none⟩ (.int .i64 2)).setCell ⟨gp, 1, none⟩ (.int .i64 x)).setCell ⟨gp, 2, none⟩ (.int .i64 0)).setCell ⟨gp, 3, none⟩ (.int .u64 0)).heap[g]? = W4.heap[g]? := fun g hg => setAll_other (g := gp) (k := g) hg [.int .i64 2, .int .i64 x, .int .i64 0, .int .u64 0] 0 W4
      have hb02 := (hk_ ga np).trans hb0
      have hbV2 := hbV.but hkj.2.2 (But.all gp [.int .i64 2, .int .i64 x, .int .i64 0, .int .u64 0] 0 W4) hop rfl
      change WldV ((((W4.setCell ⟨gp, 0, none⟩ (.int .i64 2)).setCell ⟨gp, 1, none⟩ (.int .i64 x)).setCell ⟨gp, 2, none⟩ (.int .i64 0)).setCell ⟨gp, 3, none⟩ (.int .u64 0)) _ _ at hbV2
      have hW2 : Ext w ((((W4.setCell ⟨gp, 0, none⟩ (.int .i64 2)).setCell ⟨gp, 1, none⟩ (.int .i64 x)).setCell ⟨gp, 2, none⟩ (.int .i64 0)).setCell ⟨gp, 3, none⟩ (.int .u64 0)) := setAll_ext (g := gp) (vs := [.int .i64 2, .int .i64 x, .int .i64 0, .int .u64 0]) (i := 0) hWr (by omega)
      have hown2 : IntOwn ((((W4.setCell ⟨gp, 0, none⟩ (.int .i64 2)).setCell ⟨gp, 1, none⟩ (.int .i64 x)).setCell ⟨gp, 2, none⟩ (.int .i64 0)).setCell ⟨gp, 3, none⟩ (.int .u64 0)) gs _ held.length held := hown.kept (fun g o hb hv ho => (hk_ g (fun e => by
        have h1 := hown.ne_box (k := gp) hop (by decide)
        exact h1 (by rw [← hv, e]))).trans ho)
      have hsz_ : ((((W4.setCell ⟨gp, 0, none⟩ (.int .i64 2)).setCell ⟨gp, 1, none⟩ (.int .i64 x)).setCell ⟨gp, 2, none⟩ (.int .i64 0)).setCell ⟨gp, 3, none⟩ (.int .u64 0)).heap.size = W4.heap.size := by simp [World.setCell]
      replace hgr : gs ≤ ((((W4.setCell ⟨gp, 0, none⟩ (.int .i64 2)).setCell ⟨gp, 1, none⟩ (.int .i64 x)).setCell ⟨gp, 2, none⟩ (.int .i64 0)).setCell ⟨gp, 3, none⟩ (.int .u64 0)).heap.size := by rw [hsz_]; exact hgr
      clear hk_ hsz_ hop hb0 hbV hown hWr
      generalize ((((W4.setCell ⟨gp, 0, none⟩ (.int .i64 2)).setCell ⟨gp, 1, none⟩ (.int .i64 x)).setCell ⟨gp, 2, none⟩ (.int .i64 0)).setCell ⟨gp, 3, none⟩ (.int .u64 0)) = W5 at *
      clear o0 o1 o2 o3 of0 of1 of2 of3 e0 e1 e2 e3 e4 e5
      have hop := hop2
      have hb0 := hb02
      have hbV := hbV2
      have hown := hown2
      have hWr := hW2
      clear hop2 hb02 hbV2 hown2 hW2 hcl
      have o0 : W5.cell? ⟨gp, 0, none⟩ = some (.int .i64 2) := by simp [World.cell?, hop]
      have o1 : W5.cell? ⟨gp, 1, none⟩ = some (.int .i64 x) := by simp [World.cell?, hop]
      have o2 : W5.cell? ⟨gp, 2, none⟩ = some (.int .i64 0) := by simp [World.cell?, hop]
      have o3 : W5.cell? ⟨gp, 3, none⟩ = some (.int .u64 0) := by simp [World.cell?, hop]
      have e0 : W5.cell? ⟨ga, 0, none⟩ = some (.int .i64 Xj.T) := by simp [World.cell?, hb0]
      have e1 : W5.cell? ⟨ga, 1, none⟩ = some (.int .i64 Xj.C) := by simp [World.cell?, hb0]
      have e2 : W5.cell? ⟨ga, 2, none⟩ = some (.slice bA bq bc) := by simp [World.cell?, hb0]
      have e3 : W5.cell? ⟨ga, 3, none⟩ = some (.int .u64 Xj.R) := by simp [World.cell?, hb0]
      have e4 : W5.cell? ⟨ga, 4, none⟩ = some (.slice bB Xj.n bb) := by simp [World.cell?, hb0]
      have e5 : W5.cell? ⟨ga, 5, none⟩ = some (.slice bC Xj.n bd) := by simp [World.cell?, hb0]
      go_wp2_with fail
      refine (hcon _ hbV).mono ?_
      clear hcon hcz
      rintro e w6 ⟨v_, rfl, hVc, hx_⟩
      obtain ⟨cA, cq, cc, cB, cb, cC, cd, rfl⟩ := hVc.form6
      replace hgr := Nat.le_trans hgr hx_.size
      clear o0 o1 o2 o3 e0 e1 e2 e3 e4 e5
      replace hb0 := heap_ext hb0 hx_
      replace hop := heap_ext hop hx_
      replace hbV := hbV.ext hx_
      replace hown := hown.ext hx_
      replace hWr := hWr.trans hx_
      clear hx_
      go_upto_region 15 with (fail)
      obtain ⟨hx_, hbc, hoc⟩ := two_boxes7 w6 (.cells #[.int .i64 X1.T, .int .i64 X1.C, .slice cA cq cc, .int .u64 X1.R, .slice cB X1.n cb, .slice cC X1.n cd] 51) (.cells #[.int .i64 0, .bool false, .int .i64 0, .int .u64 0, .slice none 0 0] 37)
      generalize (w6.alloc (.cells #[.int .i64 X1.T, .int .i64 X1.C, .slice cA cq cc, .int .u64 X1.R, .slice cB X1.n cb, .slice cC X1.n cd] 51)).alloc (.cells #[.int .i64 0, .bool false, .int .i64 0, .int .u64 0, .slice none 0 0] 37) = W7 at *
      have hgc := hgr
      replace hgr := Nat.le_trans hgr hx_.size
      generalize w6.heap.size = gc at *
      replace hb0 := heap_ext hb0 hx_
      replace hop := heap_ext hop hx_
      replace hbV := hbV.ext hx_
      replace hown := hown.ext hx_
      replace hVc := hVc.ext hx_
      replace hWr := hWr.trans hx_
      clear hx_
      go_upto_region 17 with (fail)
      have nc : ¬ ga = gc := by omega
      have nc' : ¬ gc = ga := by omega
      have f0 : W7.cell? ⟨gc, 0, none⟩ = some (.int .i64 X1.T) := by simp [World.cell?, hbc]
      have f1 : W7.cell? ⟨gc, 1, none⟩ = some (.int .i64 X1.C) := by simp [World.cell?, hbc]
      have f2 : W7.cell? ⟨gc, 2, none⟩ = some (.slice cA cq cc) := by simp [World.cell?, hbc]
      have f3 : W7.cell? ⟨gc, 3, none⟩ = some (.int .u64 X1.R) := by simp [World.cell?, hbc]
      have f4 : W7.cell? ⟨gc, 4, none⟩ = some (.slice cB X1.n cb) := by simp [World.cell?, hbc]
      have f5 : W7.cell? ⟨gc, 5, none⟩ = some (.slice cC X1.n cd) := by simp [World.cell?, hbc]
      have e0 : W7.cell? ⟨ga, 0, none⟩ = some (.int .i64 Xj.T) := by simp [World.cell?, hb0]
      have ef0 : W7.frozen? ⟨ga, 0, none⟩ = false := by simp [World.frozen?, hb0]
      have e1 : W7.cell? ⟨ga, 1, none⟩ = some (.int .i64 Xj.C) := by simp [World.cell?, hb0]
      have ef1 : W7.frozen? ⟨ga, 1, none⟩ = false := by simp [World.frozen?, hb0]
      have e2 : W7.cell? ⟨ga, 2, none⟩ = some (.slice bA bq bc) := by simp [World.cell?, hb0]
      have ef2 : W7.frozen? ⟨ga, 2, none⟩ = false := by simp [World.frozen?, hb0]
      have e3 : W7.cell? ⟨ga, 3, none⟩ = some (.int .u64 Xj.R) := by simp [World.cell?, hb0]
      have ef3 : W7.frozen? ⟨ga, 3, none⟩ = false := by simp [World.frozen?, hb0]
      have e4 : W7.cell? ⟨ga, 4, none⟩ = some (.slice bB Xj.n bb) := by simp [World.cell?, hb0]
      have ef4 : W7.frozen? ⟨ga, 4, none⟩ = false := by simp [World.frozen?, hb0]
      have e5 : W7.cell? ⟨ga, 5, none⟩ = some (.slice bC Xj.n bd) := by simp [World.cell?, hb0]
      have ef5 : W7.frozen? ⟨ga, 5, none⟩ = false := by simp [World.frozen?, hb0]
      go_upto_region 18 with (fail)
      have hb0_ : ((((((W7.setCell ⟨ga, 0, none⟩ (.int .i64 X1.T)).setCell ⟨ga, 1, none⟩ (.int .i64 X1.C)).setCell ⟨ga, 2, none⟩ (.slice cA cq cc)).setCell ⟨ga, 3, none⟩ (.int .u64 X1.R)).setCell ⟨ga, 4, none⟩ (.slice cB X1.n cb)).setCell ⟨ga, 5, none⟩ (.slice cC X1.n cd)).heap[ga]? = some (.cells #[.int .i64 X1.T, .int .i64 X1.C, .slice cA cq cc, .int .u64 X1.R, .slice cB X1.n cb, .slice cC X1.n cd] 51 (0, 0)) := setAll_all (vs := [.int .i64 X1.T, .int .i64 X1.C, .slice cA cq cc, .int .u64 X1.R, .slice cB X1.n cb, .slice cC X1.n cd]) hb0 rfl
      have hWs_ : Ext w ((((((W7.setCell ⟨ga, 0, none⟩ (.int .i64 X1.T)).setCell ⟨ga, 1, none⟩ (.int .i64 X1.C)).setCell ⟨ga, 2, none⟩ (.slice cA cq cc)).setCell ⟨ga, 3, none⟩ (.int .u64 X1.R)).setCell ⟨ga, 4, none⟩ (.slice cB X1.n cb)).setCell ⟨ga, 5, none⟩ (.slice cC X1.n cd)) := setAll_ext (g := ga) (vs := [.int .i64 X1.T, .int .i64 X1.C, .slice cA cq cc, .int .u64 X1.R, .slice cB X1.n cb, .slice cC X1.n cd]) (i := 0) hWr hls
      have hk_ : ∀ g, g ≠ ga → ((((((W7.setCell ⟨ga, 0, none⟩ (.int .i64 X1.T)).setCell ⟨ga, 1, none⟩ (.int .i64 X1.C)).setCell ⟨ga, 2, none⟩ (.slice cA cq cc)).setCell ⟨ga, 3, none⟩ (.int .u64 X1.R)).setCell ⟨ga, 4, none⟩ (.slice cB X1.n cb)).setCell ⟨ga, 5, none⟩ (.slice cC X1.n cd)).heap[g]? = W7.heap[g]? := fun g hg => setAll_other (g := ga) (k := g) hg [.int .i64 X1.T, .int .i64 X1.C, .slice cA cq cc, .int .u64 X1.R, .slice cB X1.n cb, .slice cC X1.n cd] 0 W7
      have hop_ := (hk_ gp (by omega)).trans hop
      have hoc_ := (hk_ (gc + 1) (by omega)).trans hoc
      have hVc_ := hVc.but hk1.2.2 (But.all ga [.int .i64 X1.T, .int .i64 X1.C, .slice cA cq cc, .int .u64 X1.R, .slice cB X1.n cb, .slice cC X1.n cd] 0 W7) hb0 rfl
      change WldV ((((((W7.setCell ⟨ga, 0, none⟩ (.int .i64 X1.T)).setCell ⟨ga, 1, none⟩ (.int .i64 X1.C)).setCell ⟨ga, 2, none⟩ (.slice cA cq cc)).setCell ⟨ga, 3, none⟩ (.int .u64 X1.R)).setCell ⟨ga, 4, none⟩ (.slice cB X1.n cb)).setCell ⟨ga, 5, none⟩ (.slice cC X1.n cd)) _ _ at hVc_
      have hsz_ : ((((((W7.setCell ⟨ga, 0, none⟩ (.int .i64 X1.T)).setCell ⟨ga, 1, none⟩ (.int .i64 X1.C)).setCell ⟨ga, 2, none⟩ (.slice cA cq cc)).setCell ⟨ga, 3, none⟩ (.int .u64 X1.R)).setCell ⟨ga, 4, none⟩ (.slice cB X1.n cb)).setCell ⟨ga, 5, none⟩ (.slice cC X1.n cd)).heap.size = W7.heap.size := by simp [World.setCell]
      have hown_ : IntOwn ((((((W7.setCell ⟨ga, 0, none⟩ (.int .i64 X1.T)).setCell ⟨ga, 1, none⟩ (.int .i64 X1.C)).setCell ⟨ga, 2, none⟩ (.slice cA cq cc)).setCell ⟨ga, 3, none⟩ (.int .u64 X1.R)).setCell ⟨ga, 4, none⟩ (.slice cB X1.n cb)).setCell ⟨ga, 5, none⟩ (.slice cC X1.n cd)) gs _ held.length held := hown.kept (fun g o hb hv ho => (hk_ g (by omega)).trans ho)
      have hgr_ : gs ≤ ((((((W7.setCell ⟨ga, 0, none⟩ (.int .i64 X1.T)).setCell ⟨ga, 1, none⟩ (.int .i64 X1.C)).setCell ⟨ga, 2, none⟩ (.slice cA cq cc)).setCell ⟨ga, 3, none⟩ (.int .u64 X1.R)).setCell ⟨ga, 4, none⟩ (.slice cB X1.n cb)).setCell ⟨ga, 5, none⟩ (.slice cC X1.n cd)).heap.size := by rw [hsz_]; exact hgr
      clear hk_ hsz_ hown hgr hop hoc hb0 hVc hWr hbc hbV f0 f1 f2 f3 f4 f5 e0 e1 e2 e3 e4 e5 ef0 ef1 ef2 ef3 ef4 ef5
      generalize ((((((W7.setCell ⟨ga, 0, none⟩ (.int .i64 X1.T)).setCell ⟨ga, 1, none⟩ (.int .i64 X1.C)).setCell ⟨ga, 2, none⟩ (.slice cA cq cc)).setCell ⟨ga, 3, none⟩ (.int .u64 X1.R)).setCell ⟨ga, 4, none⟩ (.slice cB X1.n cb)).setCell ⟨ga, 5, none⟩ (.slice cC X1.n cd)) = wg at *
      have o0 : wg.cell? ⟨gp, 0, none⟩ = some (.int .i64 2) := by simp [World.cell?, hop_]
      have o1 : wg.cell? ⟨gp, 1, none⟩ = some (.int .i64 x) := by simp [World.cell?, hop_]
      have o2 : wg.cell? ⟨gp, 2, none⟩ = some (.int .i64 0) := by simp [World.cell?, hop_]
      have o3 : wg.cell? ⟨gp, 3, none⟩ = some (.int .u64 0) := by simp [World.cell?, hop_]
      have r0 : wg.cell? ⟨gc + 1, 0, none⟩ = some (.int .i64 0) := by simp [World.cell?, hoc_]
      have r1 : wg.cell? ⟨gc + 1, 1, none⟩ = some (.bool false) := by simp [World.cell?, hoc_]
      have r2 : wg.cell? ⟨gc + 1, 2, none⟩ = some (.int .i64 0) := by simp [World.cell?, hoc_]
      have r3 : wg.cell? ⟨gc + 1, 3, none⟩ = some (.int .u64 0) := by simp [World.cell?, hoc_]
      have r4 : wg.cell? ⟨gc + 1, 4, none⟩ = some (.slice none 0 0) := by simp [World.cell?, hoc_]
      have e0 : wg.cell? ⟨ga, 0, none⟩ = some (.int .i64 X1.T) := by simp [World.cell?, hb0_]
      have e1 : wg.cell? ⟨ga, 1, none⟩ = some (.int .i64 X1.C) := by simp [World.cell?, hb0_]
      have e2 : wg.cell? ⟨ga, 2, none⟩ = some (.slice cA cq cc) := by simp [World.cell?, hb0_]
      have e3 : wg.cell? ⟨ga, 3, none⟩ = some (.int .u64 X1.R) := by simp [World.cell?, hb0_]
      have e4 : wg.cell? ⟨ga, 4, none⟩ = some (.slice cB X1.n cb) := by simp [World.cell?, hb0_]
      have e5 : wg.cell? ⟨ga, 5, none⟩ = some (.slice cC X1.n cd) := by simp [World.cell?, hb0_]
      have htu := hp1.dim.u 1
      have hqw := hp1.dim.one
      obtain ⟨wa, rfl, rfl, hwc⟩ := WldV.word hVc_ hk1.2.2
      have hw1 := hwc 1 (by omega)
      rw [show (((1 : Nat) : Int)) = 1 from rfl, show wa.add 1 = ⟨wa.block, wa.off + 1, none⟩ from rfl] at hw1
      clear hwc
      have hwu : IntKind.u64.wrap ((τ : Int) + 1) = (τ : Int) + 1 := by rw [IntKind.wrap_u64]; omega
      have htk : tagF (X1.at 1) = (τ : Int) + 1 := by rw [ht2]; omega
      have HTK := Lib.hid htk
      clear htk
      go_wp2_with fail
      refine (rtag_any _ htu _).mono ?_
      rintro e w' ⟨rfl, rfl⟩
      rw [HTK.out]
      have hown5 : IntOwn wg gs (.slice (some ⟨g1, 0, none⟩) n1 hvc) n1 held.dropLast := by
        rw [HN1.out] at hown_; exact hown_.pop
      have hdl : held.dropLast.length = n1 := by rw [List.length_dropLast, HN1.out]; omega
      have HDL := Lib.hid hdl
      clear hdl
      clear o0 o1 o2 o3 r0 r1 r2 r3 r4 e0 e1 e2 e3 e4 e5
      go_wp2
      go_roundw
      case rel => exact ⟨j + 1, τ + 1, X1, x :: pile, held.dropLast, by go_num, by omega, by go_num, by omega, ⟨_, hb0_, hVc_⟩, hp1, hk1, hhk1, ht2, by rw [HDL.out]; exact hown5, hWs_, hgr_⟩
      case measure => simp [intOf]; omega
    all_goals
      try (have hh3 : ¬ (0 : Int) < (held.length : Int) := by omega
           clear hh1)
      rcases pile with _ | ⟨x, pl⟩
      · have hk1 := hkj
        have hcon := fun W => pal_pop Xj 1 N [] hpj hkj (.agg #[.int .i64 Xj.T, .int .i64 Xj.C, .slice bA bq bc, .int .u64 Xj.R, .slice bB Xj.n bb, .slice bC Xj.n bd]) 0 0 0 0 3 3 rfl (by omega) (by omega) W
        rw [show ([] : List Int).headD 0 = 0 from rfl] at hcon
        rw [show popW Xj 1 [] = Xj from rfl] at hcon
        have hp1 := hpj
        have ht2 : tagF (Xj.at 1) = ((τ : Nat) : Int) := HT.out
        have hhk1 := hhk
        go_upto_region 12 with (fail)
        have hx_ : Ext wr (wr.alloc (.cells #[.int .i64 1, .int .i64 0, .int .i64 0, .int .u64 0] 24)) := (Below.refl _ wr).alloc (Nat.le_refl _) _
        have hop := heap_alloc_new wr (.cells #[.int .i64 1, .int .i64 0, .int .i64 0, .int .u64 0] 24)
        generalize wr.alloc (.cells #[.int .i64 1, .int .i64 0, .int .i64 0, .int .u64 0] 24) = W4 at *
        have hgp := hgr
        replace hgr := Nat.le_trans hgr hx_.size
        generalize wr.heap.size = gp at *
        replace hb0 := heap_ext hb0 hx_
        replace hbV := hbV.ext hx_
        replace hown := hown.ext hx_
        replace hWr := hWr.trans hx_
        replace hcz := hx_.cell hcz
        clear hx_
        have o0 : W4.cell? ⟨gp, 0, none⟩ = some (.int .i64 1) := by simp [World.cell?, hop]
        have o1 : W4.cell? ⟨gp, 1, none⟩ = some (.int .i64 0) := by simp [World.cell?, hop]
        have o2 : W4.cell? ⟨gp, 2, none⟩ = some (.int .i64 0) := by simp [World.cell?, hop]
        have o3 : W4.cell? ⟨gp, 3, none⟩ = some (.int .u64 0) := by simp [World.cell?, hop]
        have e0 : W4.cell? ⟨ga, 0, none⟩ = some (.int .i64 Xj.T) := by simp [World.cell?, hb0]
        have e1 : W4.cell? ⟨ga, 1, none⟩ = some (.int .i64 Xj.C) := by simp [World.cell?, hb0]
        have e2 : W4.cell? ⟨ga, 2, none⟩ = some (.slice bA bq bc) := by simp [World.cell?, hb0]
        have e3 : W4.cell? ⟨ga, 3, none⟩ = some (.int .u64 Xj.R) := by simp [World.cell?, hb0]
        have e4 : W4.cell? ⟨ga, 4, none⟩ = some (.slice bB Xj.n bb) := by simp [World.cell?, hb0]
        have e5 : W4.cell? ⟨ga, 5, none⟩ = some (.slice bC Xj.n bd) := by simp [World.cell?, hb0]
        go_wp2_with fail
        refine (hcon _ hbV).mono ?_
        clear hcon hcz
        rintro e w6 ⟨v_, rfl, hVc, hx_⟩
        obtain ⟨cA, cq, cc, cB, cb, cC, cd, rfl⟩ := hVc.form6
        replace hgr := Nat.le_trans hgr hx_.size
        clear o0 o1 o2 o3 e0 e1 e2 e3 e4 e5
        replace hb0 := heap_ext hb0 hx_
        replace hop := heap_ext hop hx_
        replace hbV := hbV.ext hx_
        replace hown := hown.ext hx_
        replace hWr := hWr.trans hx_
        clear hx_
        go_upto_region 15 with (fail)
        obtain ⟨hx_, hbc, hoc⟩ := two_boxes7 w6 (.cells #[.int .i64 Xj.T, .int .i64 Xj.C, .slice cA cq cc, .int .u64 Xj.R, .slice cB Xj.n cb, .slice cC Xj.n cd] 51) (.cells #[.int .i64 0, .bool false, .int .i64 0, .int .u64 0, .slice none 0 0] 37)
        generalize (w6.alloc (.cells #[.int .i64 Xj.T, .int .i64 Xj.C, .slice cA cq cc, .int .u64 Xj.R, .slice cB Xj.n cb, .slice cC Xj.n cd] 51)).alloc (.cells #[.int .i64 0, .bool false, .int .i64 0, .int .u64 0, .slice none 0 0] 37) = W7 at *
        have hgc := hgr
        replace hgr := Nat.le_trans hgr hx_.size
        generalize w6.heap.size = gc at *
        replace hb0 := heap_ext hb0 hx_
        replace hop := heap_ext hop hx_
        replace hbV := hbV.ext hx_
        replace hown := hown.ext hx_
        replace hVc := hVc.ext hx_
        replace hWr := hWr.trans hx_
        clear hx_
        go_upto_region 17 with (fail)
        have nc : ¬ ga = gc := by omega
        have nc' : ¬ gc = ga := by omega
        have f0 : W7.cell? ⟨gc, 0, none⟩ = some (.int .i64 Xj.T) := by simp [World.cell?, hbc]
        have f1 : W7.cell? ⟨gc, 1, none⟩ = some (.int .i64 Xj.C) := by simp [World.cell?, hbc]
        have f2 : W7.cell? ⟨gc, 2, none⟩ = some (.slice cA cq cc) := by simp [World.cell?, hbc]
        have f3 : W7.cell? ⟨gc, 3, none⟩ = some (.int .u64 Xj.R) := by simp [World.cell?, hbc]
        have f4 : W7.cell? ⟨gc, 4, none⟩ = some (.slice cB Xj.n cb) := by simp [World.cell?, hbc]
        have f5 : W7.cell? ⟨gc, 5, none⟩ = some (.slice cC Xj.n cd) := by simp [World.cell?, hbc]
        have e0 : W7.cell? ⟨ga, 0, none⟩ = some (.int .i64 Xj.T) := by simp [World.cell?, hb0]
        have ef0 : W7.frozen? ⟨ga, 0, none⟩ = false := by simp [World.frozen?, hb0]
        have e1 : W7.cell? ⟨ga, 1, none⟩ = some (.int .i64 Xj.C) := by simp [World.cell?, hb0]
        have ef1 : W7.frozen? ⟨ga, 1, none⟩ = false := by simp [World.frozen?, hb0]
        have e2 : W7.cell? ⟨ga, 2, none⟩ = some (.slice bA bq bc) := by simp [World.cell?, hb0]
        have ef2 : W7.frozen? ⟨ga, 2, none⟩ = false := by simp [World.frozen?, hb0]
        have e3 : W7.cell? ⟨ga, 3, none⟩ = some (.int .u64 Xj.R) := by simp [World.cell?, hb0]
        have ef3 : W7.frozen? ⟨ga, 3, none⟩ = false := by simp [World.frozen?, hb0]
        have e4 : W7.cell? ⟨ga, 4, none⟩ = some (.slice bB Xj.n bb) := by simp [World.cell?, hb0]
        have ef4 : W7.frozen? ⟨ga, 4, none⟩ = false := by simp [World.frozen?, hb0]
        have e5 : W7.cell? ⟨ga, 5, none⟩ = some (.slice bC Xj.n bd) := by simp [World.cell?, hb0]
        have ef5 : W7.frozen? ⟨ga, 5, none⟩ = false := by simp [World.frozen?, hb0]
        go_upto_region 18 with (fail)
        have hb0_ : ((((((W7.setCell ⟨ga, 0, none⟩ (.int .i64 Xj.T)).setCell ⟨ga, 1, none⟩ (.int .i64 Xj.C)).setCell ⟨ga, 2, none⟩ (.slice cA cq cc)).setCell ⟨ga, 3, none⟩ (.int .u64 Xj.R)).setCell ⟨ga, 4, none⟩ (.slice cB Xj.n cb)).setCell ⟨ga, 5, none⟩ (.slice cC Xj.n cd)).heap[ga]? = some (.cells #[.int .i64 Xj.T, .int .i64 Xj.C, .slice cA cq cc, .int .u64 Xj.R, .slice cB Xj.n cb, .slice cC Xj.n cd] 51 (0, 0)) := setAll_all (vs := [.int .i64 Xj.T, .int .i64 Xj.C, .slice cA cq cc, .int .u64 Xj.R, .slice cB Xj.n cb, .slice cC Xj.n cd]) hb0 rfl
        have hWs_ : Ext w ((((((W7.setCell ⟨ga, 0, none⟩ (.int .i64 Xj.T)).setCell ⟨ga, 1, none⟩ (.int .i64 Xj.C)).setCell ⟨ga, 2, none⟩ (.slice cA cq cc)).setCell ⟨ga, 3, none⟩ (.int .u64 Xj.R)).setCell ⟨ga, 4, none⟩ (.slice cB Xj.n cb)).setCell ⟨ga, 5, none⟩ (.slice cC Xj.n cd)) := setAll_ext (g := ga) (vs := [.int .i64 Xj.T, .int .i64 Xj.C, .slice cA cq cc, .int .u64 Xj.R, .slice cB Xj.n cb, .slice cC Xj.n cd]) (i := 0) hWr hls
        have hk_ : ∀ g, g ≠ ga → ((((((W7.setCell ⟨ga, 0, none⟩ (.int .i64 Xj.T)).setCell ⟨ga, 1, none⟩ (.int .i64 Xj.C)).setCell ⟨ga, 2, none⟩ (.slice cA cq cc)).setCell ⟨ga, 3, none⟩ (.int .u64 Xj.R)).setCell ⟨ga, 4, none⟩ (.slice cB Xj.n cb)).setCell ⟨ga, 5, none⟩ (.slice cC Xj.n cd)).heap[g]? = W7.heap[g]? := fun g hg => setAll_other (g := ga) (k := g) hg [.int .i64 Xj.T, .int .i64 Xj.C, .slice cA cq cc, .int .u64 Xj.R, .slice cB Xj.n cb, .slice cC Xj.n cd] 0 W7
        have hop_ := (hk_ gp (by omega)).trans hop
        have hoc_ := (hk_ (gc + 1) (by omega)).trans hoc
        have hVc_ := hVc.but hk1.2.2 (But.all ga [.int .i64 Xj.T, .int .i64 Xj.C, .slice cA cq cc, .int .u64 Xj.R, .slice cB Xj.n cb, .slice cC Xj.n cd] 0 W7) hb0 rfl
        change WldV ((((((W7.setCell ⟨ga, 0, none⟩ (.int .i64 Xj.T)).setCell ⟨ga, 1, none⟩ (.int .i64 Xj.C)).setCell ⟨ga, 2, none⟩ (.slice cA cq cc)).setCell ⟨ga, 3, none⟩ (.int .u64 Xj.R)).setCell ⟨ga, 4, none⟩ (.slice cB Xj.n cb)).setCell ⟨ga, 5, none⟩ (.slice cC Xj.n cd)) _ _ at hVc_
        have hsz_ : ((((((W7.setCell ⟨ga, 0, none⟩ (.int .i64 Xj.T)).setCell ⟨ga, 1, none⟩ (.int .i64 Xj.C)).setCell ⟨ga, 2, none⟩ (.slice cA cq cc)).setCell ⟨ga, 3, none⟩ (.int .u64 Xj.R)).setCell ⟨ga, 4, none⟩ (.slice cB Xj.n cb)).setCell ⟨ga, 5, none⟩ (.slice cC Xj.n cd)).heap.size = W7.heap.size := by simp [World.setCell]
        have hown_ : IntOwn ((((((W7.setCell ⟨ga, 0, none⟩ (.int .i64 Xj.T)).setCell ⟨ga, 1, none⟩ (.int .i64 Xj.C)).setCell ⟨ga, 2, none⟩ (.slice cA cq cc)).setCell ⟨ga, 3, none⟩ (.int .u64 Xj.R)).setCell ⟨ga, 4, none⟩ (.slice cB Xj.n cb)).setCell ⟨ga, 5, none⟩ (.slice cC Xj.n cd)) gs _ held.length held := hown.kept (fun g o hb hv ho => (hk_ g (by omega)).trans ho)
        have hgr_ : gs ≤ ((((((W7.setCell ⟨ga, 0, none⟩ (.int .i64 Xj.T)).setCell ⟨ga, 1, none⟩ (.int .i64 Xj.C)).setCell ⟨ga, 2, none⟩ (.slice cA cq cc)).setCell ⟨ga, 3, none⟩ (.int .u64 Xj.R)).setCell ⟨ga, 4, none⟩ (.slice cB Xj.n cb)).setCell ⟨ga, 5, none⟩ (.slice cC Xj.n cd)).heap.size := by rw [hsz_]; exact hgr
        clear hk_ hsz_ hown hgr hop hoc hb0 hVc hWr hbc hbV f0 f1 f2 f3 f4 f5 e0 e1 e2 e3 e4 e5 ef0 ef1 ef2 ef3 ef4 ef5
        generalize ((((((W7.setCell ⟨ga, 0, none⟩ (.int .i64 Xj.T)).setCell ⟨ga, 1, none⟩ (.int .i64 Xj.C)).setCell ⟨ga, 2, none⟩ (.slice cA cq cc)).setCell ⟨ga, 3, none⟩ (.int .u64 Xj.R)).setCell ⟨ga, 4, none⟩ (.slice cB Xj.n cb)).setCell ⟨ga, 5, none⟩ (.slice cC Xj.n cd)) = wg at *
        have o0 : wg.cell? ⟨gp, 0, none⟩ = some (.int .i64 1) := by simp [World.cell?, hop_]
        have o1 : wg.cell? ⟨gp, 1, none⟩ = some (.int .i64 0) := by simp [World.cell?, hop_]
        have o2 : wg.cell? ⟨gp, 2, none⟩ = some (.int .i64 0) := by simp [World.cell?, hop_]
        have o3 : wg.cell? ⟨gp, 3, none⟩ = some (.int .u64 0) := by simp [World.cell?, hop_]
        have r0 : wg.cell? ⟨gc + 1, 0, none⟩ = some (.int .i64 0) := by simp [World.cell?, hoc_]
        have r1 : wg.cell? ⟨gc + 1, 1, none⟩ = some (.bool false) := by simp [World.cell?, hoc_]
        have r2 : wg.cell? ⟨gc + 1, 2, none⟩ = some (.int .i64 0) := by simp [World.cell?, hoc_]
        have r3 : wg.cell? ⟨gc + 1, 3, none⟩ = some (.int .u64 0) := by simp [World.cell?, hoc_]
        have r4 : wg.cell? ⟨gc + 1, 4, none⟩ = some (.slice none 0 0) := by simp [World.cell?, hoc_]
        have e0 : wg.cell? ⟨ga, 0, none⟩ = some (.int .i64 Xj.T) := by simp [World.cell?, hb0_]
        have e1 : wg.cell? ⟨ga, 1, none⟩ = some (.int .i64 Xj.C) := by simp [World.cell?, hb0_]
        have e2 : wg.cell? ⟨ga, 2, none⟩ = some (.slice cA cq cc) := by simp [World.cell?, hb0_]
        have e3 : wg.cell? ⟨ga, 3, none⟩ = some (.int .u64 Xj.R) := by simp [World.cell?, hb0_]
        have e4 : wg.cell? ⟨ga, 4, none⟩ = some (.slice cB Xj.n cb) := by simp [World.cell?, hb0_]
        have e5 : wg.cell? ⟨ga, 5, none⟩ = some (.slice cC Xj.n cd) := by simp [World.cell?, hb0_]
        have htu := hp1.dim.u 1
        have hqw := hp1.dim.one
        obtain ⟨wa, rfl, rfl, hwc⟩ := WldV.word hVc_ hk1.2.2
        have hw1 := hwc 1 (by omega)
        rw [show (((1 : Nat) : Int)) = 1 from rfl, show wa.add 1 = ⟨wa.block, wa.off + 1, none⟩ from rfl] at hw1
        clear hwc
        have HTK := Lib.hid ht2
        clear ht2
        go_wp2_with fail
        refine (rtag_any _ htu _).mono ?_
        rintro e w' ⟨rfl, rfl⟩
        rw [HTK.out]
        clear o0 o1 o2 o3 r0 r1 r2 r3 r4 e0 e1 e2 e3 e4 e5
        go_wp2
        go_roundw
        case rel => exact ⟨j + 1, τ, Xj, [], held, by go_num, by omega, by go_num, by omega, ⟨_, hb0_, hVc_⟩, hp1, hk1, hhk1, HTK.out, hown_, hWs_, hgr_⟩
        case measure => simp [intOf]; omega
      · have hpp := pop_pool hpj
        obtain ⟨hxx, hx1, hxN, -⟩ := hpj.chain
        have hk1 := hkj.popW 1 (x :: pl)
        have hcon := fun W => pal_pop Xj 1 N (x :: pl) hpj hkj (.agg #[.int .i64 Xj.T, .int .i64 Xj.C, .slice bA bq bc, .int .u64 Xj.R, .slice bB Xj.n bb, .slice bC Xj.n bd]) 0 0 0 0 3 3 rfl (by omega) (by omega) W
        rw [show (x :: pl).headD 0 = x from rfl] at hcon
        rw [show popW Xj 1 (x :: pl) = popX Xj 1 from rfl] at hcon hk1
        generalize popX Xj 1 = X1 at *
        obtain ⟨hp1, ht1⟩ := hpp
        have ht2 : tagF (X1.at 1) = ((τ + 1 : Nat) : Int) := by rw [ht1, HT.out]; omega
        have hhk1 := hhk.pop ⟨hx1, hxN⟩
        have hxp : (0 : Int) < x := by omega
        clear hxx
        go_upto_region 12 with (fail)
        have hx_ : Ext wr (wr.alloc (.cells #[.int .i64 1, .int .i64 0, .int .i64 0, .int .u64 0] 24)) := (Below.refl _ wr).alloc (Nat.le_refl _) _
        have hop := heap_alloc_new wr (.cells #[.int .i64 1, .int .i64 0, .int .i64 0, .int .u64 0] 24)
        generalize wr.alloc (.cells #[.int .i64 1, .int .i64 0, .int .i64 0, .int .u64 0] 24) = W4 at *
        have hgp := hgr
        replace hgr := Nat.le_trans hgr hx_.size
        generalize wr.heap.size = gp at *
        replace hb0 := heap_ext hb0 hx_
        replace hbV := hbV.ext hx_
        replace hown := hown.ext hx_
        replace hWr := hWr.trans hx_
        replace hcz := hx_.cell hcz
        clear hx_
        have o0 : W4.cell? ⟨gp, 0, none⟩ = some (.int .i64 1) := by simp [World.cell?, hop]
        have o1 : W4.cell? ⟨gp, 1, none⟩ = some (.int .i64 0) := by simp [World.cell?, hop]
        have o2 : W4.cell? ⟨gp, 2, none⟩ = some (.int .i64 0) := by simp [World.cell?, hop]
        have o3 : W4.cell? ⟨gp, 3, none⟩ = some (.int .u64 0) := by simp [World.cell?, hop]
        have e0 : W4.cell? ⟨ga, 0, none⟩ = some (.int .i64 Xj.T) := by simp [World.cell?, hb0]
        have e1 : W4.cell? ⟨ga, 1, none⟩ = some (.int .i64 Xj.C) := by simp [World.cell?, hb0]
        have e2 : W4.cell? ⟨ga, 2, none⟩ = some (.slice bA bq bc) := by simp [World.cell?, hb0]
        have e3 : W4.cell? ⟨ga, 3, none⟩ = some (.int .u64 Xj.R) := by simp [World.cell?, hb0]
        have e4 : W4.cell? ⟨ga, 4, none⟩ = some (.slice bB Xj.n bb) := by simp [World.cell?, hb0]
        have e5 : W4.cell? ⟨ga, 5, none⟩ = some (.slice bC Xj.n bd) := by simp [World.cell?, hb0]
        go_wp2_with fail
        refine (hcon _ hbV).mono ?_
        clear hcon hcz
        rintro e w6 ⟨v_, rfl, hVc, hx_⟩
        obtain ⟨cA, cq, cc, cB, cb, cC, cd, rfl⟩ := hVc.form6
        replace hgr := Nat.le_trans hgr hx_.size
        clear o0 o1 o2 o3 e0 e1 e2 e3 e4 e5
        replace hb0 := heap_ext hb0 hx_
        replace hop := heap_ext hop hx_
        replace hbV := hbV.ext hx_
        replace hown := hown.ext hx_
        replace hWr := hWr.trans hx_
        clear hx_
        go_upto_region 15 with (fail)
        obtain ⟨hx_, hbc, hoc⟩ := two_boxes7 w6 (.cells #[.int .i64 X1.T, .int .i64 X1.C, .slice cA cq cc, .int .u64 X1.R, .slice cB X1.n cb, .slice cC X1.n cd] 51) (.cells #[.int .i64 0, .bool false, .int .i64 x, .int .u64 0, .slice none 0 0] 37)
        generalize (w6.alloc (.cells #[.int .i64 X1.T, .int .i64 X1.C, .slice cA cq cc, .int .u64 X1.R, .slice cB X1.n cb, .slice cC X1.n cd] 51)).alloc (.cells #[.int .i64 0, .bool false, .int .i64 x, .int .u64 0, .slice none 0 0] 37) = W7 at *
        have hgc := hgr
        replace hgr := Nat.le_trans hgr hx_.size
        generalize w6.heap.size = gc at *
        replace hb0 := heap_ext hb0 hx_
        replace hop := heap_ext hop hx_
        replace hbV := hbV.ext hx_
        replace hown := hown.ext hx_
        replace hVc := hVc.ext hx_
        replace hWr := hWr.trans hx_
        clear hx_
        go_upto_region 17 with (fail)
        have nc : ¬ ga = gc := by omega
        have nc' : ¬ gc = ga := by omega
        have f0 : W7.cell? ⟨gc, 0, none⟩ = some (.int .i64 X1.T) := by simp [World.cell?, hbc]
        have f1 : W7.cell? ⟨gc, 1, none⟩ = some (.int .i64 X1.C) := by simp [World.cell?, hbc]
        have f2 : W7.cell? ⟨gc, 2, none⟩ = some (.slice cA cq cc) := by simp [World.cell?, hbc]
        have f3 : W7.cell? ⟨gc, 3, none⟩ = some (.int .u64 X1.R) := by simp [World.cell?, hbc]
        have f4 : W7.cell? ⟨gc, 4, none⟩ = some (.slice cB X1.n cb) := by simp [World.cell?, hbc]
        have f5 : W7.cell? ⟨gc, 5, none⟩ = some (.slice cC X1.n cd) := by simp [World.cell?, hbc]
        have e0 : W7.cell? ⟨ga, 0, none⟩ = some (.int .i64 Xj.T) := by simp [World.cell?, hb0]
        have ef0 : W7.frozen? ⟨ga, 0, none⟩ = false := by simp [World.frozen?, hb0]
        have e1 : W7.cell? ⟨ga, 1, none⟩ = some (.int .i64 Xj.C) := by simp [World.cell?, hb0]
        have ef1 : W7.frozen? ⟨ga, 1, none⟩ = false := by simp [World.frozen?, hb0]
        have e2 : W7.cell? ⟨ga, 2, none⟩ = some (.slice bA bq bc) := by simp [World.cell?, hb0]
        have ef2 : W7.frozen? ⟨ga, 2, none⟩ = false := by simp [World.frozen?, hb0]
        have e3 : W7.cell? ⟨ga, 3, none⟩ = some (.int .u64 Xj.R) := by simp [World.cell?, hb0]
        have ef3 : W7.frozen? ⟨ga, 3, none⟩ = false := by simp [World.frozen?, hb0]
        have e4 : W7.cell? ⟨ga, 4, none⟩ = some (.slice bB Xj.n bb) := by simp [World.cell?, hb0]
        have ef4 : W7.frozen? ⟨ga, 4, none⟩ = false := by simp [World.frozen?, hb0]
        have e5 : W7.cell? ⟨ga, 5, none⟩ = some (.slice bC Xj.n bd) := by simp [World.cell?, hb0]
        have ef5 : W7.frozen? ⟨ga, 5, none⟩ = false := by simp [World.frozen?, hb0]
        go_upto_region 18 with (fail)
        have hb0_ : ((((((W7.setCell ⟨ga, 0, none⟩ (.int .i64 X1.T)).setCell ⟨ga, 1, none⟩ (.int .i64 X1.C)).setCell ⟨ga, 2, none⟩ (.slice cA cq cc)).setCell ⟨ga, 3, none⟩ (.int .u64 X1.R)).setCell ⟨ga, 4, none⟩ (.slice cB X1.n cb)).setCell ⟨ga, 5, none⟩ (.slice cC X1.n cd)).heap[ga]? = some (.cells #[.int .i64 X1.T, .int .i64 X1.C, .slice cA cq cc, .int .u64 X1.R, .slice cB X1.n cb, .slice cC X1.n cd] 51 (0, 0)) := setAll_all (vs := [.int .i64 X1.T, .int .i64 X1.C, .slice cA cq cc, .int .u64 X1.R, .slice cB X1.n cb, .slice cC X1.n cd]) hb0 rfl
        have hWs_ : Ext w ((((((W7.setCell ⟨ga, 0, none⟩ (.int .i64 X1.T)).setCell ⟨ga, 1, none⟩ (.int .i64 X1.C)).setCell ⟨ga, 2, none⟩ (.slice cA cq cc)).setCell ⟨ga, 3, none⟩ (.int .u64 X1.R)).setCell ⟨ga, 4, none⟩ (.slice cB X1.n cb)).setCell ⟨ga, 5, none⟩ (.slice cC X1.n cd)) := setAll_ext (g := ga) (vs := [.int .i64 X1.T, .int .i64 X1.C, .slice cA cq cc, .int .u64 X1.R, .slice cB X1.n cb, .slice cC X1.n cd]) (i := 0) hWr hls
        have hk_ : ∀ g, g ≠ ga → ((((((W7.setCell ⟨ga, 0, none⟩ (.int .i64 X1.T)).setCell ⟨ga, 1, none⟩ (.int .i64 X1.C)).setCell ⟨ga, 2, none⟩ (.slice cA cq cc)).setCell ⟨ga, 3, none⟩ (.int .u64 X1.R)).setCell ⟨ga, 4, none⟩ (.slice cB X1.n cb)).setCell ⟨ga, 5, none⟩ (.slice cC X1.n cd)).heap[g]? = W7.heap[g]? := fun g hg => setAll_other (g := ga) (k := g) hg [.int .i64 X1.T, .int .i64 X1.C, .slice cA cq cc, .int .u64 X1.R, .slice cB X1.n cb, .slice cC X1.n cd] 0 W7
        have hop_ := (hk_ gp (by omega)).trans hop
        have hoc_ := (hk_ (gc + 1) (by omega)).trans hoc
        have hVc_ := hVc.but hk1.2.2 (But.all ga [.int .i64 X1.T, .int .i64 X1.C, .slice cA cq cc, .int .u64 X1.R, .slice cB X1.n cb, .slice cC X1.n cd] 0 W7) hb0 rfl
        change WldV ((((((W7.setCell ⟨ga, 0, none⟩ (.int .i64 X1.T)).setCell ⟨ga, 1, none⟩ (.int .i64 X1.C)).setCell ⟨ga, 2, none⟩ (.slice cA cq cc)).setCell ⟨ga, 3, none⟩ (.int .u64 X1.R)).setCell ⟨ga, 4, none⟩ (.slice cB X1.n cb)).setCell ⟨ga, 5, none⟩ (.slice cC X1.n cd)) _ _ at hVc_
        have hsz_ : ((((((W7.setCell ⟨ga, 0, none⟩ (.int .i64 X1.T)).setCell ⟨ga, 1, none⟩ (.int .i64 X1.C)).setCell ⟨ga, 2, none⟩ (.slice cA cq cc)).setCell ⟨ga, 3, none⟩ (.int .u64 X1.R)).setCell ⟨ga, 4, none⟩ (.slice cB X1.n cb)).setCell ⟨ga, 5, none⟩ (.slice cC X1.n cd)).heap.size = W7.heap.size := by simp [World.setCell]
        have hown_ : IntOwn ((((((W7.setCell ⟨ga, 0, none⟩ (.int .i64 X1.T)).setCell ⟨ga, 1, none⟩ (.int .i64 X1.C)).setCell ⟨ga, 2, none⟩ (.slice cA cq cc)).setCell ⟨ga, 3, none⟩ (.int .u64 X1.R)).setCell ⟨ga, 4, none⟩ (.slice cB X1.n cb)).setCell ⟨ga, 5, none⟩ (.slice cC X1.n cd)) gs _ held.length held := hown.kept (fun g o hb hv ho => (hk_ g (by omega)).trans ho)
        have hgr_ : gs ≤ ((((((W7.setCell ⟨ga, 0, none⟩ (.int .i64 X1.T)).setCell ⟨ga, 1, none⟩ (.int .i64 X1.C)).setCell ⟨ga, 2, none⟩ (.slice cA cq cc)).setCell ⟨ga, 3, none⟩ (.int .u64 X1.R)).setCell ⟨ga, 4, none⟩ (.slice cB X1.n cb)).setCell ⟨ga, 5, none⟩ (.slice cC X1.n cd)).heap.size := by rw [hsz_]; exact hgr
        clear hk_ hsz_ hown hgr hop hoc hb0 hVc hWr hbc hbV f0 f1 f2 f3 f4 f5 e0 e1 e2 e3 e4 e5 ef0 ef1 ef2 ef3 ef4 ef5
        generalize ((((((W7.setCell ⟨ga, 0, none⟩ (.int .i64 X1.T)).setCell ⟨ga, 1, none⟩ (.int .i64 X1.C)).setCell ⟨ga, 2, none⟩ (.slice cA cq cc)).setCell ⟨ga, 3, none⟩ (.int .u64 X1.R)).setCell ⟨ga, 4, none⟩ (.slice cB X1.n cb)).setCell ⟨ga, 5, none⟩ (.slice cC X1.n cd)) = wg at *
        have o0 : wg.cell? ⟨gp, 0, none⟩ = some (.int .i64 1) := by simp [World.cell?, hop_]
        have o1 : wg.cell? ⟨gp, 1, none⟩ = some (.int .i64 0) := by simp [World.cell?, hop_]
        have o2 : wg.cell? ⟨gp, 2, none⟩ = some (.int .i64 0) := by simp [World.cell?, hop_]
        have o3 : wg.cell? ⟨gp, 3, none⟩ = some (.int .u64 0) := by simp [World.cell?, hop_]
        have r0 : wg.cell? ⟨gc + 1, 0, none⟩ = some (.int .i64 0) := by simp [World.cell?, hoc_]
        have r1 : wg.cell? ⟨gc + 1, 1, none⟩ = some (.bool false) := by simp [World.cell?, hoc_]
        have r2 : wg.cell? ⟨gc + 1, 2, none⟩ = some (.int .i64 x) := by simp [World.cell?, hoc_]
        have r3 : wg.cell? ⟨gc + 1, 3, none⟩ = some (.int .u64 0) := by simp [World.cell?, hoc_]
        have r4 : wg.cell? ⟨gc + 1, 4, none⟩ = some (.slice none 0 0) := by simp [World.cell?, hoc_]
        have e0 : wg.cell? ⟨ga, 0, none⟩ = some (.int .i64 X1.T) := by simp [World.cell?, hb0_]
        have e1 : wg.cell? ⟨ga, 1, none⟩ = some (.int .i64 X1.C) := by simp [World.cell?, hb0_]
        have e2 : wg.cell? ⟨ga, 2, none⟩ = some (.slice cA cq cc) := by simp [World.cell?, hb0_]
        have e3 : wg.cell? ⟨ga, 3, none⟩ = some (.int .u64 X1.R) := by simp [World.cell?, hb0_]
        have e4 : wg.cell? ⟨ga, 4, none⟩ = some (.slice cB X1.n cb) := by simp [World.cell?, hb0_]
        have e5 : wg.cell? ⟨ga, 5, none⟩ = some (.slice cC X1.n cd) := by simp [World.cell?, hb0_]
        have htu := hp1.dim.u 1
        have hqw := hp1.dim.one
        have hWn : Ext wg (wg.alloc (.cells #[.int .i64 x] 3)) := (Below.refl _ wg).alloc (Nat.le_refl _) _
        have hcn : ∀ (i : Nat) (u : Value), (intCells [x])[i]? = some u → (wg.alloc (.cells #[.int .i64 x] 3)).cell? ((⟨wg.heap.size, 0, none⟩ : Addr).add i) = some u := heap_cells (heap_alloc_new wg _)
        have hown2 := hown_.ext hWn
        go_upto_region 23 with (at_builtin; go_loud (refine wpList_append_int rfl (.tmp 73) (.tmp 76) _ rfl gs i0 Try.underlying35 hi0 hz0 hz1 hz2 _ held.length held rfl hown2 ⟨wg.heap.size, 0, none⟩ 1 1 [x] rfl (by intro _; omega) rfl hcn (by omega) (Nat.le_trans hgr_ hWn.size) ?_); intro v2 w8 hown5 hg5 hob5)
        have hW5 := grownI_ext hown2 hg5 (hWs_.trans hWn) (by omega)
        have hb5 := grownI_heap hown2 hg5 (hown2.low (by omega)) (heap_ext hb0_ hWn)
        have hV5 := WldV.grownI hown2 hg5 (hVc_.ext hWn) hk1.2.2
        have hgr5 : gs ≤ w8.heap.size := Nat.le_trans hgr_ (Nat.le_trans hWn.size hg5.size)
        clear hown2 hg5 hob5 hcn hWn hown_ hb0_ hVc_ hop_ hoc_ hgr_
        clear o0 o1 o2 o3 r0 r1 r2 r3 r4 e0 e1 e2 e3 e4 e5
        have e0 : w8.cell? ⟨ga, 0, none⟩ = some (.int .i64 X1.T) := by simp [World.cell?, hb5]
        have e1 : w8.cell? ⟨ga, 1, none⟩ = some (.int .i64 X1.C) := by simp [World.cell?, hb5]
        have e2 : w8.cell? ⟨ga, 2, none⟩ = some (.slice cA cq cc) := by simp [World.cell?, hb5]
        have e3 : w8.cell? ⟨ga, 3, none⟩ = some (.int .u64 X1.R) := by simp [World.cell?, hb5]
        have e4 : w8.cell? ⟨ga, 4, none⟩ = some (.slice cB X1.n cb) := by simp [World.cell?, hb5]
        have e5 : w8.cell? ⟨ga, 5, none⟩ = some (.slice cC X1.n cd) := by simp [World.cell?, hb5]
        obtain ⟨wa, rfl, rfl, hwc⟩ := WldV.word hV5 hk1.2.2
        have hw1 := hwc 1 (by omega)
        rw [show (((1 : Nat) : Int)) = 1 from rfl, show wa.add 1 = ⟨wa.block, wa.off + 1, none⟩ from rfl] at hw1
        clear hwc
        have hwu : IntKind.u64.wrap ((τ : Int) + 1) = (τ : Int) + 1 := by rw [IntKind.wrap_u64]; omega
        have htk : tagF (X1.at 1) = (τ : Int) + 1 := by rw [ht2]; omega
        have HTK := Lib.hid htk
        clear htk
        go_wp2_with fail
        refine (rtag_any _ htu _).mono ?_
        rintro e w' ⟨rfl, rfl⟩
        rw [HTK.out]
        clear e0 e1 e2 e3 e4 e5
        go_wp2
        go_roundw
        case rel => exact ⟨j + 1, τ + 1, X1, pl, held ++ [x], by go_num, by omega, by go_num, by omega, ⟨_, hb5, hV5⟩, hp1, hk1, hhk1, ht2, by simpa using hown5, hW5, hgr5⟩
        case measure => simp [intOf]; omega
set_option maxRecDepth 100000 in
theorem PoolTag_lifted (os : Os) (started : os.Started) (H : Type) (enc : TypeId × Value → H) :
    ReturnsInHanded {} Try.checked os 5 .any (Rows.poolTagSpec.pre6 enc Try.prog Try.f5 Rows.poolTagRow.domain false) (Rows.poolTagSpec.post enc Try.prog Try.f5 false true false false) := by
  refine law_row os started H enc Rows.poolTagSpec rfl (fun ds h => by
    match ds, h with
    | [_, _], _ => rfl) (by kernel_rfl) Try.func5 rfl
    (by rw [Try.params5]; intro t ht; simp at ht; rcases ht with rfl | rfl <;> exact ⟨by kernel_rfl, of_decide_eq_true (by kernel_rfl)⟩)
    (ChangeSpec.witness6 (enc := enc) (C := Try.checked) false ⟨#[], #[.int .u8 0, .slice none 0 0], []⟩ 8 (by kernel_rfl) (by kernel_rfl) (by kernel_rfl) (by kernel_rfl)) ?_
  intro W base args ds ps hval hA hlt
  rw [Try.params5] at hA hval
  obtain ⟨v0, v1, d0, d1, p0, p1, rfl, rfl, rfl, h0, h1⟩ := trodAll_two hA
  obtain ⟨t, rfl, rfl, rfl, w1⟩ := open_int Try.underlying5 (hval 0 _ v0 rfl rfl) h0
  obtain ⟨M, m, mc, ms, rfl, hM⟩ := open_bytes1 (hval 1 _ v1 rfl rfl) h1
  have b1 := wf_u8 w1
  obtain ⟨tn, rfl⟩ := Int.eq_ofNat_of_zero_le b1.1
  exact ptag_walk tn (by omega) M m mc ms W hM
theorem PoolTag_holds : Rows.PoolTagSaid :=
  OpenClaim.holds_of_wide 5 Try.f5 rfl rfl rfl rfl rfl rfl rfl ⟨rfl, rfl, rfl, rfl, rfl⟩ rfl rfl rfl rfl rfl (by kernel_rfl) Try.func5 (by kernel_rfl)
    (of_decide_eq_true (by kernel_rfl)) (by unfold Func.isWrapper; rw [if_neg (of_decide_eq_false (by kernel_rfl))]; exact ⟨rfl, rfl⟩)
    (fun os started H enc _ => PoolTag_lifted os started H enc)
#print axioms PoolTag_holds
end Go.Proofs.Ytkdjmfaodojmfaa
