/- Proved: the law PoolDirect (made at once, Pop and Push do what they do access by access: the same records, and the same memory) returns true at every input and turns none of its arguments. No condition. -/
import Derived.Test.YtkdjmfaodojmfaaPoolDirectPartH
import Derived.Test.YtkdjmfaodojmfaaPoolDirectPartI
import Derived.Test.YtkdjmfaodojmfaaPoolDirectPartG
namespace Go.Proofs.Ytkdjmfaodojmfaa
open Go.ChangeShapes Go.WideShapes Go.ChangeAt Go.RowKit

set_option maxRecDepth 100000 in
set_option maxHeartbeats 20000000 in
theorem pdirect_walk (cn : Nat) (hc : cn < 256) (M : Option Addr) (m mc : Nat) (ms : List UInt8) (w : World) (hM : BytesV w M m mc ms) :
    Calls Try.prog 7 #[.int .u8 cn, .slice M m mc] w fun e w' => e = .returned (.bool true) ∧ Ext w w' := by
  have hmk := Nat.le_trans hM.le hM.cap
  simp only [maxLen] at hmk
  obtain ⟨i0, hi0, hz0, hz1, hz2⟩ := info_parts info_i64
  have hr1 : ∀ (W : World) (a : Int), (Instr.buildSlice 35 1 #[(0, .int .i64 a)]).run Try.prog W = .ok (.slice (some ⟨W.heap.size, 0, none⟩) 1 1) (W.alloc (.cells #[.int .i64 a] 3)) := fun _ _ => by kernel_rfl
  have hb1 : ∀ (W : World), (Instr.build 24 #[(0, .int .i64 1)]).run Try.prog W = .ok (.agg #[.int .i64 1, .int .i64 0, .int .i64 0, .int .u64 0]) W := fun _ => by kernel_rfl
  have hb2 : ∀ (W : World) (x : Int), (Instr.build 24 #[(0, .int .i64 2), (1, .int .i64 x)]).run Try.prog W = .ok (.agg #[.int .i64 2, .int .i64 x, .int .i64 0, .int .u64 0]) W := fun _ _ => by kernel_rfl
  have q1 : IntKind.i64.wrap (cn : Int) = (cn : Int) := by rw [IntKind.wrap_i64]; omega
  have q2 : Int.tmod (cn : Int) 9 = (cn : Int) % 9 := by rw [Int.tmod_eq_emod_of_nonneg (by omega)]
  have q3 : IntKind.i64.wrap ((cn : Int) % 9) = (cn : Int) % 9 := by rw [IntKind.wrap_i64]; omega
  have q4 : (cn : Int) % 9 = ((cn % 9 : Nat) : Int) := by omega
  have hN : cn % 9 ≤ 8 := by omega
  generalize cn % 9 = N at *
  have hnew := fun W => ranew_yes 1 N (by omega) (by omega) (by omega) W
  have hp0 := new_pool (t := 1) (c := N) (by omega) (by omega) (by omega)
  have hk0 := new_wok (t := 1) (c := N) (by omega) (by omega) (by omega)
  have hh0 := HK.new N
  generalize newW 1 N = X0 at *
  go_enter Try.func7, Try.ntmps7
  go_wp2_with fail
  refine (shown12_any _).mono ?_
  rintro e w1 ⟨rfl, hW⟩
  rcases (Decidable.em (m ≤ 30)).symm with h6 | h6
  · have h6' : (30 : Int) < (m : Int) := by omega
    go_wp2
    go_ret
    exact ⟨rfl, hW⟩
  have h6' : ¬ (30 : Int) < (m : Int) := by omega
  go_wp2_with fail
  refine (hnew _).mono ?_
  rintro e w_a ⟨v_, rfl, hVa, hx_⟩
  obtain ⟨aA, aq, ac, aB, ab, aC, ad, rfl⟩ := hVa.form6
  replace hW := hW.trans hx_
  clear hx_
  go_upto_region 6 with (fail)
  have hx_ : Ext w_a (w_a.alloc (.cells #[.int .i64 X0.T, .int .i64 X0.C, .slice aA aq ac, .int .u64 X0.R, .slice aB X0.n ab, .slice aC X0.n ad] 51)) := (Below.refl _ w_a).alloc (Nat.le_refl _) _
  have hba := heap_alloc_new w_a (.cells #[.int .i64 X0.T, .int .i64 X0.C, .slice aA aq ac, .int .u64 X0.R, .slice aB X0.n ab, .slice aC X0.n ad] 51)
  generalize w_a.alloc (.cells #[.int .i64 X0.T, .int .i64 X0.C, .slice aA aq ac, .int .u64 X0.R, .slice aB X0.n ab, .slice aC X0.n ad] 51) = W3 at *
  have hls := hW.size
  generalize w_a.heap.size = ga at *
  replace hVa := hVa.ext hx_
  replace hW := hW.trans hx_
  clear hx_
  have hlga : ga < W3.heap.size := (Array.getElem?_eq_some_iff.1 hba).1
  go_wp2_with fail
  refine (hnew _).mono ?_
  rintro e w_v ⟨v_, rfl, hVv, hx_⟩
  obtain ⟨vA, vq, vc, vB, vb, vC, vd, rfl⟩ := hVv.form6
  replace hba := heap_ext hba hx_
  replace hVa := hVa.ext hx_
  replace hW := hW.trans hx_
  replace hlga := Nat.lt_of_lt_of_le hlga hx_.size
  clear hx_
  go_upto_region 7 with (fail)
  have hx_ : Ext w_v (w_v.alloc (.cells #[.int .i64 X0.T, .int .i64 X0.C, .slice vA vq vc, .int .u64 X0.R, .slice vB X0.n vb, .slice vC X0.n vd] 51)) := (Below.refl _ w_v).alloc (Nat.le_refl _) _
  have hbv := heap_alloc_new w_v (.cells #[.int .i64 X0.T, .int .i64 X0.C, .slice vA vq vc, .int .u64 X0.R, .slice vB X0.n vb, .slice vC X0.n vd] 51)
  generalize w_v.alloc (.cells #[.int .i64 X0.T, .int .i64 X0.C, .slice vA vq vc, .int .u64 X0.R, .slice vB X0.n vb, .slice vC X0.n vd] 51) = W4 at *
  have hlsv := hW.size
  generalize w_v.heap.size = gv at *
  replace hba := heap_ext hba hx_
  replace hVa := hVa.ext hx_
  replace hVv := hVv.ext hx_
  replace hW := hW.trans hx_
  clear hx_
  have hlgv : gv < W4.heap.size := (Array.getElem?_eq_some_iff.1 hbv).1
  have hng : gv ≠ ga := by omega
  go_wp2_with fail
  refine (direct12_any ga 0 X0 _ _ _ _ _ _ _ _ hba hVa).mono ?_
  rintro e w5 ⟨gP, gM, rfl, hD, hP1, hM1, hP2, hM2, hx_⟩
  have hW5 := hW.trans hx_
  have hbv5 := heap_ext hbv hx_
  have hVv5 := hVv.ext hx_
  have hbx : BoxW w5 gv X0 := ⟨_, hbv5, hVv5⟩
  have hnP : gP ≠ gv := by omega
  have hnM : gM ≠ gv := by omega
  obtain ⟨gs, hgs⟩ : ∃ gs, gs = w5.heap.size := ⟨_, rfl⟩
  have hgr : gs ≤ w5.heap.size := Nat.le_of_eq hgs
  have hs1 : ga < gs := by rw [hgs]; exact hD.lt.2.2
  have hs2 : gv < gs := by rw [hgs]; exact Nat.lt_of_lt_of_le hlgv hx_.size
  rw [← hgs] at hP2 hM2
  have hls2 : w.heap.size ≤ gs := by omega
  clear hba hVa hbv hVv hbv5 hVv5 hW hgs hlga hlgv hP1 hM1 hx_ hnew q1 q2 q3
  have hW := hW5
  clear hW5
  unfold dirV12
  go_wp2
  go_loopw [10, 11] (fun hv iv wr => ∃ (j : Nat) (Xj : WldK) (pile held : List Int), iv = .int .i64 (j : Int) ∧ j ≤ m ∧ DirAt wr gP gM ga 0 Xj ∧ BoxW wr gv Xj ∧ PoolK Xj 1 N pile ∧ WOk Xj ∧ HK N pile held ∧ IntOwn wr gs hv held.length held ∧ Ext w wr ∧ gs ≤ wr.heap.size) (fun _ iv _ => m - (intOf iv).toNat)
  case atStart => exact ⟨0, X0, upFrom 1 N, [], rfl, Nat.zero_le _, hD, hbx, hp0, hk0, hh0, IntOwn.nil _ _, hW, hgr⟩
  case round =>
    clear hp0 hk0 hh0 hW hD hbx hgr
    obtain ⟨j, Xj, pile, held, rfl, hj, hD, hbx, hpj, hkj, hhk, hown, hWr, hgr⟩ := hrel
    have hhN := hhk.len
    have hpN := hpj.len
    obtain ⟨bA, bq, bc, bB, bb, bC, bd, hb0, hbV⟩ := hbx.form
    clear hbx
    obtain ⟨hvB, hvc, rfl, -, -, -, hle1, hle2⟩ := hown.form
    simp only [maxLen] at hle2
    rcases (Nat.lt_or_ge j m).symm with hjm | hjm
    · obtain rfl : j = m := by omega
      obtain ⟨dA, dq, dc, dB, db, dC, dd, hd0, hdV⟩ := hD.wld
      have e0 : wr.cell? ⟨gv, 0, none⟩ = some (.int .i64 Xj.T) := by simp [World.cell?, hb0]
      have e1 : wr.cell? ⟨gv, 1, none⟩ = some (.int .i64 Xj.C) := by simp [World.cell?, hb0]
      have e2 : wr.cell? ⟨gv, 2, none⟩ = some (.slice bA bq bc) := by simp [World.cell?, hb0]
      have e3 : wr.cell? ⟨gv, 3, none⟩ = some (.int .u64 Xj.R) := by simp [World.cell?, hb0]
      have e4 : wr.cell? ⟨gv, 4, none⟩ = some (.slice bB Xj.n bb) := by simp [World.cell?, hb0]
      have e5 : wr.cell? ⟨gv, 5, none⟩ = some (.slice bC Xj.n bd) := by simp [World.cell?, hb0]
      have f0 : wr.cell? ⟨ga, 0, none⟩ = some (.int .i64 Xj.T) := by simp [World.cell?, hd0]
      have f1 : wr.cell? ⟨ga, 1, none⟩ = some (.int .i64 Xj.C) := by simp [World.cell?, hd0]
      have f2 : wr.cell? ⟨ga, 2, none⟩ = some (.slice dA dq dc) := by simp [World.cell?, hd0]
      have f3 : wr.cell? ⟨ga, 3, none⟩ = some (.int .u64 Xj.R) := by simp [World.cell?, hd0]
      have f4 : wr.cell? ⟨ga, 4, none⟩ = some (.slice dB Xj.n db) := by simp [World.cell?, hd0]
      have f5 : wr.cell? ⟨ga, 5, none⟩ = some (.slice dC Xj.n dd) := by simp [World.cell?, hd0]
      have hjI : ¬ (j : Int) < (j : Int) := by omega
      have hwl : Xj.ws.length ≤ 1000000 := by rw [hpj.dim.len]; unfold memL; omega
      go_wp2_with fail
      refine (rasame_yes hdV hbV hwl).mono ?_
      rintro e w3 ⟨rfl, hx_⟩
      clear hbV hb0 hown hpj hkj hhk hD hd0 hdV
      clear e0 e1 e2 e3 e4 e5 f0 f1 f2 f3 f4 f5
      go_wp2
      go_ret
      exact ⟨rfl, hWr.trans hx_⟩
    have hjI : (j : Int) < (m : Int) := by omega
    obtain ⟨ad, z, rfl, hcz, hzz⟩ := bytes_cell (hM.ext hWr) hjm
    have hy2 : Int.tmod (z : Int) 2 = (z : Int) % 2 := by rw [Int.tmod_eq_emod_of_nonneg (by omega)]
    have hy3 : IntKind.u8.wrap ((z : Int) % 2) = (z : Int) % 2 := by rw [IntKind.wrap_u8]; omega
    have hway : ((z : Int) % 2 = 1 ∧ 0 < held.length) ∨ (¬ (z : Int) % 2 = 1) ∨ ((z : Int) % 2 = 1 ∧ held.length = 0) := by omega
    rcases hway with ⟨hy1, hh1⟩ | hy1 | ⟨hy1, hh1⟩
    · obtain ⟨x, hspl, hlx⟩ := last_split hh1
      have hps := HK.push (h1 := held.dropLast) (h2 := []) (by rw [← hspl]; exact hhk)
      rw [List.append_nil] at hps
      obtain ⟨hhk1, hxn, hx1, hxN⟩ := hps
      have hpp := push_pool hpj hx1 hxN hxn
      have hk1 := hkj.push 1 x
      have hcon := fun W => pal_push Xj 1 N hpj.dim hkj (.agg #[.int .i64 Xj.T, .int .i64 Xj.C, .slice bA bq bc, .int .u64 Xj.R, .slice bB Xj.n bb, .slice bC Xj.n bd]) 0 x 0 0 3 hx1 hxN 3 rfl (by omega) (by omega) W
      have hdc := fun W h => dpush_any gP gM ga 0 Xj 1 N hpj.dim hkj x hx1 hxN W h
      generalize pushX Xj 1 x = X1 at *
      obtain ⟨hp1, -⟩ := hpp
      obtain ⟨g1, c1, e1, hg1, -, -, hcl⟩ := hown.at hlx
      cases e1
      obtain ⟨n1, hn1⟩ : ∃ n1, held.length = n1 + 1 := ⟨held.length - 1, by omega⟩
      have hnI : (held.length : Int) - 1 = (n1 : Int) := by omega
      rw [hn1, Nat.add_sub_cancel] at hcl
      have hhI : (0 : Int) < (held.length : Int) := by omega
      have hnL : (n1 : Int) < (held.length : Int) := by omega
      have hnc : (n1 : Int) ≤ (hvc : Int) := by omega
      have hn0 : (0 : Int) ≤ (n1 : Int) := by omega
      have HN1 := Lib.hid hn1
      clear hn1 hspl hlx
      simp only [dirV12] at hdc
      go_wp2_with fail
      refine (hdc _ hD).mono ?_
      rintro e w6 ⟨rfl, hD6, hx_⟩
      obtain ⟨dA, dq, dc, dB, db, dC, dd, hd0, -⟩ := hD.wld
      have hb06 := hx_.heap hb0 hng
      have hbV6 := hbV.extB hx_ hd0 rfl hkj.2.2
      have hown6 := hown.kept (fun g o hb hv ho => hx_.heap ho (by omega))
      have hW6 := hx_.ext hWr hls
      have hgr6 := Nat.le_trans hgr hx_.size
      clear hd0 hb0 hbV hown hWr hgr hD hx_ hdc hcz hcl
      have hb0 := hb06
      have hbV := hbV6
      have hown := hown6
      have hWr := hW6
      have hgr := hgr6
      have hD := hD6
      clear hb06 hbV6 hown6 hW6 hgr6 hD6
      have e0 : w6.cell? ⟨gv, 0, none⟩ = some (.int .i64 Xj.T) := by simp [World.cell?, hb0]
      have e1 : w6.cell? ⟨gv, 1, none⟩ = some (.int .i64 Xj.C) := by simp [World.cell?, hb0]
      have e2 : w6.cell? ⟨gv, 2, none⟩ = some (.slice bA bq bc) := by simp [World.cell?, hb0]
      have e3 : w6.cell? ⟨gv, 3, none⟩ = some (.int .u64 Xj.R) := by simp [World.cell?, hb0]
      have e4 : w6.cell? ⟨gv, 4, none⟩ = some (.slice bB Xj.n bb) := by simp [World.cell?, hb0]
      have e5 : w6.cell? ⟨gv, 5, none⟩ = some (.slice bC Xj.n bd) := by simp [World.cell?, hb0]
      go_wp2_with fail
      refine (hcon _ hbV).mono ?_
      clear hcon
      rintro e w7 ⟨v_, rfl, hVc, hx_⟩
      obtain ⟨cA, cq, cc, cB, cb, cC, cd, rfl⟩ := hVc.form6
      replace hgr := Nat.le_trans hgr hx_.size
      clear e0 e1 e2 e3 e4 e5
      replace hb0 := heap_ext hb0 hx_
      replace hbV := hbV.ext hx_
      replace hown := hown.ext hx_
      replace hD := hD.ext hx_
      replace hWr := hWr.trans hx_
      clear hx_
      go_upto_region 17 with (fail)
      obtain ⟨hx_, hbc, hoc⟩ := two_boxes7 w7 (.cells #[.int .i64 X1.T, .int .i64 X1.C, .slice cA cq cc, .int .u64 X1.R, .slice cB X1.n cb, .slice cC X1.n cd] 51) (.cells #[.int .i64 0, .bool false, .int .i64 0, .int .u64 0, .slice none 0 0] 37)
      generalize (w7.alloc (.cells #[.int .i64 X1.T, .int .i64 X1.C, .slice cA cq cc, .int .u64 X1.R, .slice cB X1.n cb, .slice cC X1.n cd] 51)).alloc (.cells #[.int .i64 0, .bool false, .int .i64 0, .int .u64 0, .slice none 0 0] 37) = W7 at *
      have hgc := hgr
      replace hgr := Nat.le_trans hgr hx_.size
      generalize w7.heap.size = gc at *
      replace hb0 := heap_ext hb0 hx_
      replace hbV := hbV.ext hx_
      replace hown := hown.ext hx_
      replace hD := hD.ext hx_
      replace hVc := hVc.ext hx_
      replace hWr := hWr.trans hx_
      clear hx_
      go_upto_region 19 with (fail)
      have nc : ¬ gv = gc := by omega
      have nc' : ¬ gc = gv := by omega
      have f0 : W7.cell? ⟨gc, 0, none⟩ = some (.int .i64 X1.T) := by simp [World.cell?, hbc]
      have f1 : W7.cell? ⟨gc, 1, none⟩ = some (.int .i64 X1.C) := by simp [World.cell?, hbc]
      have f2 : W7.cell? ⟨gc, 2, none⟩ = some (.slice cA cq cc) := by simp [World.cell?, hbc]
      have f3 : W7.cell? ⟨gc, 3, none⟩ = some (.int .u64 X1.R) := by simp [World.cell?, hbc]
      have f4 : W7.cell? ⟨gc, 4, none⟩ = some (.slice cB X1.n cb) := by simp [World.cell?, hbc]
      have f5 : W7.cell? ⟨gc, 5, none⟩ = some (.slice cC X1.n cd) := by simp [World.cell?, hbc]
      have e0 : W7.cell? ⟨gv, 0, none⟩ = some (.int .i64 Xj.T) := by simp [World.cell?, hb0]
      have ef0 : W7.frozen? ⟨gv, 0, none⟩ = false := by simp [World.frozen?, hb0]
      have e1 : W7.cell? ⟨gv, 1, none⟩ = some (.int .i64 Xj.C) := by simp [World.cell?, hb0]
      have ef1 : W7.frozen? ⟨gv, 1, none⟩ = false := by simp [World.frozen?, hb0]
      have e2 : W7.cell? ⟨gv, 2, none⟩ = some (.slice bA bq bc) := by simp [World.cell?, hb0]
      have ef2 : W7.frozen? ⟨gv, 2, none⟩ = false := by simp [World.frozen?, hb0]
      have e3 : W7.cell? ⟨gv, 3, none⟩ = some (.int .u64 Xj.R) := by simp [World.cell?, hb0]
      have ef3 : W7.frozen? ⟨gv, 3, none⟩ = false := by simp [World.frozen?, hb0]
      have e4 : W7.cell? ⟨gv, 4, none⟩ = some (.slice bB Xj.n bb) := by simp [World.cell?, hb0]
      have ef4 : W7.frozen? ⟨gv, 4, none⟩ = false := by simp [World.frozen?, hb0]
      have e5 : W7.cell? ⟨gv, 5, none⟩ = some (.slice bC Xj.n bd) := by simp [World.cell?, hb0]
      have ef5 : W7.frozen? ⟨gv, 5, none⟩ = false := by simp [World.frozen?, hb0]
      go_wp2
      have hb0_ : ((((((W7.setCell ⟨gv, 0, none⟩ (.int .i64 X1.T)).setCell ⟨gv, 1, none⟩ (.int .i64 X1.C)).setCell ⟨gv, 2, none⟩ (.slice cA cq cc)).setCell ⟨gv, 3, none⟩ (.int .u64 X1.R)).setCell ⟨gv, 4, none⟩ (.slice cB X1.n cb)).setCell ⟨gv, 5, none⟩ (.slice cC X1.n cd)).heap[gv]? = some (.cells #[.int .i64 X1.T, .int .i64 X1.C, .slice cA cq cc, .int .u64 X1.R, .slice cB X1.n cb, .slice cC X1.n cd] 51 (0, 0)) := setAll_all (vs := [.int .i64 X1.T, .int .i64 X1.C, .slice cA cq cc, .int .u64 X1.R, .slice cB X1.n cb, .slice cC X1.n cd]) hb0 rfl
      have hWs_ : Ext w ((((((W7.setCell ⟨gv, 0, none⟩ (.int .i64 X1.T)).setCell ⟨gv, 1, none⟩ (.int .i64 X1.C)).setCell ⟨gv, 2, none⟩ (.slice cA cq cc)).setCell ⟨gv, 3, none⟩ (.int .u64 X1.R)).setCell ⟨gv, 4, none⟩ (.slice cB X1.n cb)).setCell ⟨gv, 5, none⟩ (.slice cC X1.n cd)) := setAll_ext (g := gv) (vs := [.int .i64 X1.T, .int .i64 X1.C, .slice cA cq cc, .int .u64 X1.R, .slice cB X1.n cb, .slice cC X1.n cd]) (i := 0) hWr hlsv
      have hk_ : ∀ g, g ≠ gv → ((((((W7.setCell ⟨gv, 0, none⟩ (.int .i64 X1.T)).setCell ⟨gv, 1, none⟩ (.int .i64 X1.C)).setCell ⟨gv, 2, none⟩ (.slice cA cq cc)).setCell ⟨gv, 3, none⟩ (.int .u64 X1.R)).setCell ⟨gv, 4, none⟩ (.slice cB X1.n cb)).setCell ⟨gv, 5, none⟩ (.slice cC X1.n cd)).heap[g]? = W7.heap[g]? := fun g hg => setAll_other (g := gv) (k := g) hg [.int .i64 X1.T, .int .i64 X1.C, .slice cA cq cc, .int .u64 X1.R, .slice cB X1.n cb, .slice cC X1.n cd] 0 W7
      have hVc_ := hVc.but hk1.2.2 (But.all gv [.int .i64 X1.T, .int .i64 X1.C, .slice cA cq cc, .int .u64 X1.R, .slice cB X1.n cb, .slice cC X1.n cd] 0 W7) hb0 rfl
      change WldV ((((((W7.setCell ⟨gv, 0, none⟩ (.int .i64 X1.T)).setCell ⟨gv, 1, none⟩ (.int .i64 X1.C)).setCell ⟨gv, 2, none⟩ (.slice cA cq cc)).setCell ⟨gv, 3, none⟩ (.int .u64 X1.R)).setCell ⟨gv, 4, none⟩ (.slice cB X1.n cb)).setCell ⟨gv, 5, none⟩ (.slice cC X1.n cd)) _ _ at hVc_
      have hsz_ : ((((((W7.setCell ⟨gv, 0, none⟩ (.int .i64 X1.T)).setCell ⟨gv, 1, none⟩ (.int .i64 X1.C)).setCell ⟨gv, 2, none⟩ (.slice cA cq cc)).setCell ⟨gv, 3, none⟩ (.int .u64 X1.R)).setCell ⟨gv, 4, none⟩ (.slice cB X1.n cb)).setCell ⟨gv, 5, none⟩ (.slice cC X1.n cd)).heap.size = W7.heap.size := by simp [World.setCell]
      have hD_ : DirAt ((((((W7.setCell ⟨gv, 0, none⟩ (.int .i64 X1.T)).setCell ⟨gv, 1, none⟩ (.int .i64 X1.C)).setCell ⟨gv, 2, none⟩ (.slice cA cq cc)).setCell ⟨gv, 3, none⟩ (.int .u64 X1.R)).setCell ⟨gv, 4, none⟩ (.slice cB X1.n cb)).setCell ⟨gv, 5, none⟩ (.slice cC X1.n cd)) gP gM ga 0 X1 := hD.but (But.all gv [.int .i64 X1.T, .int .i64 X1.C, .slice cA cq cc, .int .u64 X1.R, .slice cB X1.n cb, .slice cC X1.n cd] 0 W7) hb0 rfl hk1.2.2 hnP hnM (Ne.symm hng)
      have hown_ : IntOwn ((((((W7.setCell ⟨gv, 0, none⟩ (.int .i64 X1.T)).setCell ⟨gv, 1, none⟩ (.int .i64 X1.C)).setCell ⟨gv, 2, none⟩ (.slice cA cq cc)).setCell ⟨gv, 3, none⟩ (.int .u64 X1.R)).setCell ⟨gv, 4, none⟩ (.slice cB X1.n cb)).setCell ⟨gv, 5, none⟩ (.slice cC X1.n cd)) gs _ held.length held := hown.kept (fun g o hb hv ho => (hk_ g (by omega)).trans ho)
      have hgr_ : gs ≤ ((((((W7.setCell ⟨gv, 0, none⟩ (.int .i64 X1.T)).setCell ⟨gv, 1, none⟩ (.int .i64 X1.C)).setCell ⟨gv, 2, none⟩ (.slice cA cq cc)).setCell ⟨gv, 3, none⟩ (.int .u64 X1.R)).setCell ⟨gv, 4, none⟩ (.slice cB X1.n cb)).setCell ⟨gv, 5, none⟩ (.slice cC X1.n cd)).heap.size := by rw [hsz_]; exact hgr
      clear hk_ hsz_ hown hgr hoc hb0 hVc hWr hbc hbV hD f0 f1 f2 f3 f4 f5 e0 e1 e2 e3 e4 e5 ef0 ef1 ef2 ef3 ef4 ef5
      generalize ((((((W7.setCell ⟨gv, 0, none⟩ (.int .i64 X1.T)).setCell ⟨gv, 1, none⟩ (.int .i64 X1.C)).setCell ⟨gv, 2, none⟩ (.slice cA cq cc)).setCell ⟨gv, 3, none⟩ (.int .u64 X1.R)).setCell ⟨gv, 4, none⟩ (.slice cB X1.n cb)).setCell ⟨gv, 5, none⟩ (.slice cC X1.n cd)) = wg at *
      have hown5 : IntOwn wg gs (.slice (some ⟨g1, 0, none⟩) n1 hvc) n1 held.dropLast := by
        rw [HN1.out] at hown_; exact hown_.pop
      have hdl : held.dropLast.length = n1 := by rw [List.length_dropLast, HN1.out]; omega
      have HDL := Lib.hid hdl
      clear hdl
      go_roundw
      case rel => exact ⟨j + 1, X1, x :: pile, held.dropLast, by go_num, by omega, hD_, ⟨_, hb0_, hVc_⟩, hp1, hk1, hhk1, by rw [HDL.out]; exact hown5, hWs_, hgr_⟩
      case measure => simp [intOf]; omega
    all_goals
      try (have hh3 : ¬ (0 : Int) < (held.length : Int) := by omega
           clear hh1)
      rcases pile with _ | ⟨x, pl⟩
      · have hk1 := hkj
        have hcon := fun W => pal_pop Xj 1 N [] hpj hkj (.agg #[.int .i64 Xj.T, .int .i64 Xj.C, .slice bA bq bc, .int .u64 Xj.R, .slice bB Xj.n bb, .slice bC Xj.n bd]) 0 0 0 0 3 3 rfl (by omega) (by omega) W
        have hdc := fun W h => dpop_any gP gM ga 0 Xj 1 N [] hpj hkj W h
        rw [show ([] : List Int).headD 0 = 0 from rfl] at hcon hdc
        rw [show popW Xj 1 [] = Xj from rfl] at hcon hdc
        have hp1 := hpj
        have hnN : ¬ (N : Int) < 0 := by omega
        have hhk1 := hhk
        simp only [dirV12] at hdc
        go_wp2_with fail
        refine (hdc _ hD).mono ?_
        rintro e w6 ⟨rfl, hD6, hx_⟩
        obtain ⟨dA, dq, dc, dB, db, dC, dd, hd0, -⟩ := hD.wld
        have hb06 := hx_.heap hb0 hng
        have hbV6 := hbV.extB hx_ hd0 rfl hkj.2.2
        have hown6 := hown.kept (fun g o hb hv ho => hx_.heap ho (by omega))
        have hW6 := hx_.ext hWr hls
        have hgr6 := Nat.le_trans hgr hx_.size
        clear hd0 hb0 hbV hown hWr hgr hD hx_ hdc hcz 
        have hb0 := hb06
        have hbV := hbV6
        have hown := hown6
        have hWr := hW6
        have hgr := hgr6
        have hD := hD6
        clear hb06 hbV6 hown6 hW6 hgr6 hD6
        have e0 : w6.cell? ⟨gv, 0, none⟩ = some (.int .i64 Xj.T) := by simp [World.cell?, hb0]
        have e1 : w6.cell? ⟨gv, 1, none⟩ = some (.int .i64 Xj.C) := by simp [World.cell?, hb0]
        have e2 : w6.cell? ⟨gv, 2, none⟩ = some (.slice bA bq bc) := by simp [World.cell?, hb0]
        have e3 : w6.cell? ⟨gv, 3, none⟩ = some (.int .u64 Xj.R) := by simp [World.cell?, hb0]
        have e4 : w6.cell? ⟨gv, 4, none⟩ = some (.slice bB Xj.n bb) := by simp [World.cell?, hb0]
        have e5 : w6.cell? ⟨gv, 5, none⟩ = some (.slice bC Xj.n bd) := by simp [World.cell?, hb0]
        go_wp2_with fail
        refine (hcon _ hbV).mono ?_
        clear hcon
        rintro e w7 ⟨v_, rfl, hVc, hx_⟩
        obtain ⟨cA, cq, cc, cB, cb, cC, cd, rfl⟩ := hVc.form6
        replace hgr := Nat.le_trans hgr hx_.size
        clear e0 e1 e2 e3 e4 e5
        replace hb0 := heap_ext hb0 hx_
        replace hbV := hbV.ext hx_
        replace hown := hown.ext hx_
        replace hD := hD.ext hx_
        replace hWr := hWr.trans hx_
        clear hx_
        go_upto_region 22 with (fail)
        obtain ⟨hx_, hbc, hoc⟩ := two_boxes7 w7 (.cells #[.int .i64 Xj.T, .int .i64 Xj.C, .slice cA cq cc, .int .u64 Xj.R, .slice cB Xj.n cb, .slice cC Xj.n cd] 51) (.cells #[.int .i64 0, .bool false, .int .i64 0, .int .u64 0, .slice none 0 0] 37)
        generalize (w7.alloc (.cells #[.int .i64 Xj.T, .int .i64 Xj.C, .slice cA cq cc, .int .u64 Xj.R, .slice cB Xj.n cb, .slice cC Xj.n cd] 51)).alloc (.cells #[.int .i64 0, .bool false, .int .i64 0, .int .u64 0, .slice none 0 0] 37) = W7 at *
        have hgc := hgr
        replace hgr := Nat.le_trans hgr hx_.size
        generalize w7.heap.size = gc at *
        replace hb0 := heap_ext hb0 hx_
        replace hbV := hbV.ext hx_
        replace hown := hown.ext hx_
        replace hD := hD.ext hx_
        replace hVc := hVc.ext hx_
        replace hWr := hWr.trans hx_
        clear hx_
        have r0 : W7.cell? ⟨gc + 1, 0, none⟩ = some (.int .i64 0) := by simp [World.cell?, hoc]
        have r1 : W7.cell? ⟨gc + 1, 1, none⟩ = some (.bool false) := by simp [World.cell?, hoc]
        have r2 : W7.cell? ⟨gc + 1, 2, none⟩ = some (.int .i64 0) := by simp [World.cell?, hoc]
        have r3 : W7.cell? ⟨gc + 1, 3, none⟩ = some (.int .u64 0) := by simp [World.cell?, hoc]
        have r4 : W7.cell? ⟨gc + 1, 4, none⟩ = some (.slice none 0 0) := by simp [World.cell?, hoc]
        go_upto_region 24 with (fail)
        clear r0 r1 r2 r3 r4
        have nc : ¬ gv = gc := by omega
        have nc' : ¬ gc = gv := by omega
        have f0 : W7.cell? ⟨gc, 0, none⟩ = some (.int .i64 Xj.T) := by simp [World.cell?, hbc]
        have f1 : W7.cell? ⟨gc, 1, none⟩ = some (.int .i64 Xj.C) := by simp [World.cell?, hbc]
        have f2 : W7.cell? ⟨gc, 2, none⟩ = some (.slice cA cq cc) := by simp [World.cell?, hbc]
        have f3 : W7.cell? ⟨gc, 3, none⟩ = some (.int .u64 Xj.R) := by simp [World.cell?, hbc]
        have f4 : W7.cell? ⟨gc, 4, none⟩ = some (.slice cB Xj.n cb) := by simp [World.cell?, hbc]
        have f5 : W7.cell? ⟨gc, 5, none⟩ = some (.slice cC Xj.n cd) := by simp [World.cell?, hbc]
        have e0 : W7.cell? ⟨gv, 0, none⟩ = some (.int .i64 Xj.T) := by simp [World.cell?, hb0]
        have ef0 : W7.frozen? ⟨gv, 0, none⟩ = false := by simp [World.frozen?, hb0]
        have e1 : W7.cell? ⟨gv, 1, none⟩ = some (.int .i64 Xj.C) := by simp [World.cell?, hb0]
        have ef1 : W7.frozen? ⟨gv, 1, none⟩ = false := by simp [World.frozen?, hb0]
        have e2 : W7.cell? ⟨gv, 2, none⟩ = some (.slice bA bq bc) := by simp [World.cell?, hb0]
        have ef2 : W7.frozen? ⟨gv, 2, none⟩ = false := by simp [World.frozen?, hb0]
        have e3 : W7.cell? ⟨gv, 3, none⟩ = some (.int .u64 Xj.R) := by simp [World.cell?, hb0]
        have ef3 : W7.frozen? ⟨gv, 3, none⟩ = false := by simp [World.frozen?, hb0]
        have e4 : W7.cell? ⟨gv, 4, none⟩ = some (.slice bB Xj.n bb) := by simp [World.cell?, hb0]
        have ef4 : W7.frozen? ⟨gv, 4, none⟩ = false := by simp [World.frozen?, hb0]
        have e5 : W7.cell? ⟨gv, 5, none⟩ = some (.slice bC Xj.n bd) := by simp [World.cell?, hb0]
        have ef5 : W7.frozen? ⟨gv, 5, none⟩ = false := by simp [World.frozen?, hb0]
        go_upto_region 25 with (fail)
        have hb0_ : ((((((W7.setCell ⟨gv, 0, none⟩ (.int .i64 Xj.T)).setCell ⟨gv, 1, none⟩ (.int .i64 Xj.C)).setCell ⟨gv, 2, none⟩ (.slice cA cq cc)).setCell ⟨gv, 3, none⟩ (.int .u64 Xj.R)).setCell ⟨gv, 4, none⟩ (.slice cB Xj.n cb)).setCell ⟨gv, 5, none⟩ (.slice cC Xj.n cd)).heap[gv]? = some (.cells #[.int .i64 Xj.T, .int .i64 Xj.C, .slice cA cq cc, .int .u64 Xj.R, .slice cB Xj.n cb, .slice cC Xj.n cd] 51 (0, 0)) := setAll_all (vs := [.int .i64 Xj.T, .int .i64 Xj.C, .slice cA cq cc, .int .u64 Xj.R, .slice cB Xj.n cb, .slice cC Xj.n cd]) hb0 rfl
        have hWs_ : Ext w ((((((W7.setCell ⟨gv, 0, none⟩ (.int .i64 Xj.T)).setCell ⟨gv, 1, none⟩ (.int .i64 Xj.C)).setCell ⟨gv, 2, none⟩ (.slice cA cq cc)).setCell ⟨gv, 3, none⟩ (.int .u64 Xj.R)).setCell ⟨gv, 4, none⟩ (.slice cB Xj.n cb)).setCell ⟨gv, 5, none⟩ (.slice cC Xj.n cd)) := setAll_ext (g := gv) (vs := [.int .i64 Xj.T, .int .i64 Xj.C, .slice cA cq cc, .int .u64 Xj.R, .slice cB Xj.n cb, .slice cC Xj.n cd]) (i := 0) hWr hlsv
        have hk_ : ∀ g, g ≠ gv → ((((((W7.setCell ⟨gv, 0, none⟩ (.int .i64 Xj.T)).setCell ⟨gv, 1, none⟩ (.int .i64 Xj.C)).setCell ⟨gv, 2, none⟩ (.slice cA cq cc)).setCell ⟨gv, 3, none⟩ (.int .u64 Xj.R)).setCell ⟨gv, 4, none⟩ (.slice cB Xj.n cb)).setCell ⟨gv, 5, none⟩ (.slice cC Xj.n cd)).heap[g]? = W7.heap[g]? := fun g hg => setAll_other (g := gv) (k := g) hg [.int .i64 Xj.T, .int .i64 Xj.C, .slice cA cq cc, .int .u64 Xj.R, .slice cB Xj.n cb, .slice cC Xj.n cd] 0 W7
        have hVc_ := hVc.but hk1.2.2 (But.all gv [.int .i64 Xj.T, .int .i64 Xj.C, .slice cA cq cc, .int .u64 Xj.R, .slice cB Xj.n cb, .slice cC Xj.n cd] 0 W7) hb0 rfl
        change WldV ((((((W7.setCell ⟨gv, 0, none⟩ (.int .i64 Xj.T)).setCell ⟨gv, 1, none⟩ (.int .i64 Xj.C)).setCell ⟨gv, 2, none⟩ (.slice cA cq cc)).setCell ⟨gv, 3, none⟩ (.int .u64 Xj.R)).setCell ⟨gv, 4, none⟩ (.slice cB Xj.n cb)).setCell ⟨gv, 5, none⟩ (.slice cC Xj.n cd)) _ _ at hVc_
        have hsz_ : ((((((W7.setCell ⟨gv, 0, none⟩ (.int .i64 Xj.T)).setCell ⟨gv, 1, none⟩ (.int .i64 Xj.C)).setCell ⟨gv, 2, none⟩ (.slice cA cq cc)).setCell ⟨gv, 3, none⟩ (.int .u64 Xj.R)).setCell ⟨gv, 4, none⟩ (.slice cB Xj.n cb)).setCell ⟨gv, 5, none⟩ (.slice cC Xj.n cd)).heap.size = W7.heap.size := by simp [World.setCell]
        have hD_ : DirAt ((((((W7.setCell ⟨gv, 0, none⟩ (.int .i64 Xj.T)).setCell ⟨gv, 1, none⟩ (.int .i64 Xj.C)).setCell ⟨gv, 2, none⟩ (.slice cA cq cc)).setCell ⟨gv, 3, none⟩ (.int .u64 Xj.R)).setCell ⟨gv, 4, none⟩ (.slice cB Xj.n cb)).setCell ⟨gv, 5, none⟩ (.slice cC Xj.n cd)) gP gM ga 0 Xj := hD.but (But.all gv [.int .i64 Xj.T, .int .i64 Xj.C, .slice cA cq cc, .int .u64 Xj.R, .slice cB Xj.n cb, .slice cC Xj.n cd] 0 W7) hb0 rfl hk1.2.2 hnP hnM (Ne.symm hng)
        have hown_ : IntOwn ((((((W7.setCell ⟨gv, 0, none⟩ (.int .i64 Xj.T)).setCell ⟨gv, 1, none⟩ (.int .i64 Xj.C)).setCell ⟨gv, 2, none⟩ (.slice cA cq cc)).setCell ⟨gv, 3, none⟩ (.int .u64 Xj.R)).setCell ⟨gv, 4, none⟩ (.slice cB Xj.n cb)).setCell ⟨gv, 5, none⟩ (.slice cC Xj.n cd)) gs _ held.length held := hown.kept (fun g o hb hv ho => (hk_ g (by omega)).trans ho)
        have hgr_ : gs ≤ ((((((W7.setCell ⟨gv, 0, none⟩ (.int .i64 Xj.T)).setCell ⟨gv, 1, none⟩ (.int .i64 Xj.C)).setCell ⟨gv, 2, none⟩ (.slice cA cq cc)).setCell ⟨gv, 3, none⟩ (.int .u64 Xj.R)).setCell ⟨gv, 4, none⟩ (.slice cB Xj.n cb)).setCell ⟨gv, 5, none⟩ (.slice cC Xj.n cd)).heap.size := by rw [hsz_]; exact hgr
        clear hk_ hsz_ hown hgr hoc hb0 hVc hWr hbc hbV hD f0 f1 f2 f3 f4 f5 e0 e1 e2 e3 e4 e5 ef0 ef1 ef2 ef3 ef4 ef5
        generalize ((((((W7.setCell ⟨gv, 0, none⟩ (.int .i64 Xj.T)).setCell ⟨gv, 1, none⟩ (.int .i64 Xj.C)).setCell ⟨gv, 2, none⟩ (.slice cA cq cc)).setCell ⟨gv, 3, none⟩ (.int .u64 Xj.R)).setCell ⟨gv, 4, none⟩ (.slice cB Xj.n cb)).setCell ⟨gv, 5, none⟩ (.slice cC Xj.n cd)) = wg at *
        go_wp2
        go_roundw
        case rel => exact ⟨j + 1, Xj, [], held, by go_num, by omega, hD_, ⟨_, hb0_, hVc_⟩, hp1, hk1, hhk1, hown_, hWs_, hgr_⟩
        case measure => simp [intOf]; omega
      · have hpp := pop_pool hpj
        obtain ⟨hxx, hx1, hxN, -⟩ := hpj.chain
        have hk1 := hkj.popW 1 (x :: pl)
        have hcon := fun W => pal_pop Xj 1 N (x :: pl) hpj hkj (.agg #[.int .i64 Xj.T, .int .i64 Xj.C, .slice bA bq bc, .int .u64 Xj.R, .slice bB Xj.n bb, .slice bC Xj.n bd]) 0 0 0 0 3 3 rfl (by omega) (by omega) W
        have hdc := fun W h => dpop_any gP gM ga 0 Xj 1 N (x :: pl) hpj hkj W h
        rw [show (x :: pl).headD 0 = x from rfl] at hcon hdc
        rw [show popW Xj 1 (x :: pl) = popX Xj 1 from rfl] at hcon hk1 hdc
        generalize popX Xj 1 = X1 at *
        obtain ⟨hp1, -⟩ := hpp
        have hhk1 := hhk.pop ⟨hx1, hxN⟩
        have hxp : (0 : Int) < x := by omega
        have hnx : ¬ x < 0 := by omega
        have hnN : ¬ (N : Int) < x := by omega
        clear hxx
        simp only [dirV12] at hdc
        go_wp2_with fail
        refine (hdc _ hD).mono ?_
        rintro e w6 ⟨rfl, hD6, hx_⟩
        obtain ⟨dA, dq, dc, dB, db, dC, dd, hd0, -⟩ := hD.wld
        have hb06 := hx_.heap hb0 hng
        have hbV6 := hbV.extB hx_ hd0 rfl hkj.2.2
        have hown6 := hown.kept (fun g o hb hv ho => hx_.heap ho (by omega))
        have hW6 := hx_.ext hWr hls
        have hgr6 := Nat.le_trans hgr hx_.size
        clear hd0 hb0 hbV hown hWr hgr hD hx_ hdc hcz 
        have hb0 := hb06
        have hbV := hbV6
        have hown := hown6
        have hWr := hW6
        have hgr := hgr6
        have hD := hD6
        clear hb06 hbV6 hown6 hW6 hgr6 hD6
        have e0 : w6.cell? ⟨gv, 0, none⟩ = some (.int .i64 Xj.T) := by simp [World.cell?, hb0]
        have e1 : w6.cell? ⟨gv, 1, none⟩ = some (.int .i64 Xj.C) := by simp [World.cell?, hb0]
        have e2 : w6.cell? ⟨gv, 2, none⟩ = some (.slice bA bq bc) := by simp [World.cell?, hb0]
        have e3 : w6.cell? ⟨gv, 3, none⟩ = some (.int .u64 Xj.R) := by simp [World.cell?, hb0]
        have e4 : w6.cell? ⟨gv, 4, none⟩ = some (.slice bB Xj.n bb) := by simp [World.cell?, hb0]
        have e5 : w6.cell? ⟨gv, 5, none⟩ = some (.slice bC Xj.n bd) := by simp [World.cell?, hb0]
        go_wp2_with fail
        refine (hcon _ hbV).mono ?_
        clear hcon
        rintro e w7 ⟨v_, rfl, hVc, hx_⟩
        obtain ⟨cA, cq, cc, cB, cb, cC, cd, rfl⟩ := hVc.form6
        replace hgr := Nat.le_trans hgr hx_.size
        clear e0 e1 e2 e3 e4 e5
        replace hb0 := heap_ext hb0 hx_
        replace hbV := hbV.ext hx_
        replace hown := hown.ext hx_
        replace hD := hD.ext hx_
        replace hWr := hWr.trans hx_
        clear hx_
        go_upto_region 22 with (fail)
        obtain ⟨hx_, hbc, hoc⟩ := two_boxes7 w7 (.cells #[.int .i64 X1.T, .int .i64 X1.C, .slice cA cq cc, .int .u64 X1.R, .slice cB X1.n cb, .slice cC X1.n cd] 51) (.cells #[.int .i64 0, .bool false, .int .i64 x, .int .u64 0, .slice none 0 0] 37)
        generalize (w7.alloc (.cells #[.int .i64 X1.T, .int .i64 X1.C, .slice cA cq cc, .int .u64 X1.R, .slice cB X1.n cb, .slice cC X1.n cd] 51)).alloc (.cells #[.int .i64 0, .bool false, .int .i64 x, .int .u64 0, .slice none 0 0] 37) = W7 at *
        have hgc := hgr
        replace hgr := Nat.le_trans hgr hx_.size
        generalize w7.heap.size = gc at *
        replace hb0 := heap_ext hb0 hx_
        replace hbV := hbV.ext hx_
        replace hown := hown.ext hx_
        replace hD := hD.ext hx_
        replace hVc := hVc.ext hx_
        replace hWr := hWr.trans hx_
        clear hx_
        have r0 : W7.cell? ⟨gc + 1, 0, none⟩ = some (.int .i64 0) := by simp [World.cell?, hoc]
        have r1 : W7.cell? ⟨gc + 1, 1, none⟩ = some (.bool false) := by simp [World.cell?, hoc]
        have r2 : W7.cell? ⟨gc + 1, 2, none⟩ = some (.int .i64 x) := by simp [World.cell?, hoc]
        have r3 : W7.cell? ⟨gc + 1, 3, none⟩ = some (.int .u64 0) := by simp [World.cell?, hoc]
        have r4 : W7.cell? ⟨gc + 1, 4, none⟩ = some (.slice none 0 0) := by simp [World.cell?, hoc]
        go_upto_region 24 with (fail)
        clear r0 r1 r2 r3 r4
        have nc : ¬ gv = gc := by omega
        have nc' : ¬ gc = gv := by omega
        have f0 : W7.cell? ⟨gc, 0, none⟩ = some (.int .i64 X1.T) := by simp [World.cell?, hbc]
        have f1 : W7.cell? ⟨gc, 1, none⟩ = some (.int .i64 X1.C) := by simp [World.cell?, hbc]
        have f2 : W7.cell? ⟨gc, 2, none⟩ = some (.slice cA cq cc) := by simp [World.cell?, hbc]
        have f3 : W7.cell? ⟨gc, 3, none⟩ = some (.int .u64 X1.R) := by simp [World.cell?, hbc]
        have f4 : W7.cell? ⟨gc, 4, none⟩ = some (.slice cB X1.n cb) := by simp [World.cell?, hbc]
        have f5 : W7.cell? ⟨gc, 5, none⟩ = some (.slice cC X1.n cd) := by simp [World.cell?, hbc]
        have e0 : W7.cell? ⟨gv, 0, none⟩ = some (.int .i64 Xj.T) := by simp [World.cell?, hb0]
        have ef0 : W7.frozen? ⟨gv, 0, none⟩ = false := by simp [World.frozen?, hb0]
        have e1 : W7.cell? ⟨gv, 1, none⟩ = some (.int .i64 Xj.C) := by simp [World.cell?, hb0]
        have ef1 : W7.frozen? ⟨gv, 1, none⟩ = false := by simp [World.frozen?, hb0]
        have e2 : W7.cell? ⟨gv, 2, none⟩ = some (.slice bA bq bc) := by simp [World.cell?, hb0]
        have ef2 : W7.frozen? ⟨gv, 2, none⟩ = false := by simp [World.frozen?, hb0]
        have e3 : W7.cell? ⟨gv, 3, none⟩ = some (.int .u64 Xj.R) := by simp [World.cell?, hb0]
        have ef3 : W7.frozen? ⟨gv, 3, none⟩ = false := by simp [World.frozen?, hb0]
        have e4 : W7.cell? ⟨gv, 4, none⟩ = some (.slice bB Xj.n bb) := by simp [World.cell?, hb0]
        have ef4 : W7.frozen? ⟨gv, 4, none⟩ = false := by simp [World.frozen?, hb0]
        have e5 : W7.cell? ⟨gv, 5, none⟩ = some (.slice bC Xj.n bd) := by simp [World.cell?, hb0]
        have ef5 : W7.frozen? ⟨gv, 5, none⟩ = false := by simp [World.frozen?, hb0]
        go_upto_region 25 with (fail)
        have hb0_ : ((((((W7.setCell ⟨gv, 0, none⟩ (.int .i64 X1.T)).setCell ⟨gv, 1, none⟩ (.int .i64 X1.C)).setCell ⟨gv, 2, none⟩ (.slice cA cq cc)).setCell ⟨gv, 3, none⟩ (.int .u64 X1.R)).setCell ⟨gv, 4, none⟩ (.slice cB X1.n cb)).setCell ⟨gv, 5, none⟩ (.slice cC X1.n cd)).heap[gv]? = some (.cells #[.int .i64 X1.T, .int .i64 X1.C, .slice cA cq cc, .int .u64 X1.R, .slice cB X1.n cb, .slice cC X1.n cd] 51 (0, 0)) := setAll_all (vs := [.int .i64 X1.T, .int .i64 X1.C, .slice cA cq cc, .int .u64 X1.R, .slice cB X1.n cb, .slice cC X1.n cd]) hb0 rfl
        have hWs_ : Ext w ((((((W7.setCell ⟨gv, 0, none⟩ (.int .i64 X1.T)).setCell ⟨gv, 1, none⟩ (.int .i64 X1.C)).setCell ⟨gv, 2, none⟩ (.slice cA cq cc)).setCell ⟨gv, 3, none⟩ (.int .u64 X1.R)).setCell ⟨gv, 4, none⟩ (.slice cB X1.n cb)).setCell ⟨gv, 5, none⟩ (.slice cC X1.n cd)) := setAll_ext (g := gv) (vs := [.int .i64 X1.T, .int .i64 X1.C, .slice cA cq cc, .int .u64 X1.R, .slice cB X1.n cb, .slice cC X1.n cd]) (i := 0) hWr hlsv
        have hk_ : ∀ g, g ≠ gv → ((((((W7.setCell ⟨gv, 0, none⟩ (.int .i64 X1.T)).setCell ⟨gv, 1, none⟩ (.int .i64 X1.C)).setCell ⟨gv, 2, none⟩ (.slice cA cq cc)).setCell ⟨gv, 3, none⟩ (.int .u64 X1.R)).setCell ⟨gv, 4, none⟩ (.slice cB X1.n cb)).setCell ⟨gv, 5, none⟩ (.slice cC X1.n cd)).heap[g]? = W7.heap[g]? := fun g hg => setAll_other (g := gv) (k := g) hg [.int .i64 X1.T, .int .i64 X1.C, .slice cA cq cc, .int .u64 X1.R, .slice cB X1.n cb, .slice cC X1.n cd] 0 W7
        have hVc_ := hVc.but hk1.2.2 (But.all gv [.int .i64 X1.T, .int .i64 X1.C, .slice cA cq cc, .int .u64 X1.R, .slice cB X1.n cb, .slice cC X1.n cd] 0 W7) hb0 rfl
        change WldV ((((((W7.setCell ⟨gv, 0, none⟩ (.int .i64 X1.T)).setCell ⟨gv, 1, none⟩ (.int .i64 X1.C)).setCell ⟨gv, 2, none⟩ (.slice cA cq cc)).setCell ⟨gv, 3, none⟩ (.int .u64 X1.R)).setCell ⟨gv, 4, none⟩ (.slice cB X1.n cb)).setCell ⟨gv, 5, none⟩ (.slice cC X1.n cd)) _ _ at hVc_
        have hsz_ : ((((((W7.setCell ⟨gv, 0, none⟩ (.int .i64 X1.T)).setCell ⟨gv, 1, none⟩ (.int .i64 X1.C)).setCell ⟨gv, 2, none⟩ (.slice cA cq cc)).setCell ⟨gv, 3, none⟩ (.int .u64 X1.R)).setCell ⟨gv, 4, none⟩ (.slice cB X1.n cb)).setCell ⟨gv, 5, none⟩ (.slice cC X1.n cd)).heap.size = W7.heap.size := by simp [World.setCell]
        have hD_ : DirAt ((((((W7.setCell ⟨gv, 0, none⟩ (.int .i64 X1.T)).setCell ⟨gv, 1, none⟩ (.int .i64 X1.C)).setCell ⟨gv, 2, none⟩ (.slice cA cq cc)).setCell ⟨gv, 3, none⟩ (.int .u64 X1.R)).setCell ⟨gv, 4, none⟩ (.slice cB X1.n cb)).setCell ⟨gv, 5, none⟩ (.slice cC X1.n cd)) gP gM ga 0 X1 := hD.but (But.all gv [.int .i64 X1.T, .int .i64 X1.C, .slice cA cq cc, .int .u64 X1.R, .slice cB X1.n cb, .slice cC X1.n cd] 0 W7) hb0 rfl hk1.2.2 hnP hnM (Ne.symm hng)
        have hown_ : IntOwn ((((((W7.setCell ⟨gv, 0, none⟩ (.int .i64 X1.T)).setCell ⟨gv, 1, none⟩ (.int .i64 X1.C)).setCell ⟨gv, 2, none⟩ (.slice cA cq cc)).setCell ⟨gv, 3, none⟩ (.int .u64 X1.R)).setCell ⟨gv, 4, none⟩ (.slice cB X1.n cb)).setCell ⟨gv, 5, none⟩ (.slice cC X1.n cd)) gs _ held.length held := hown.kept (fun g o hb hv ho => (hk_ g (by omega)).trans ho)
        have hgr_ : gs ≤ ((((((W7.setCell ⟨gv, 0, none⟩ (.int .i64 X1.T)).setCell ⟨gv, 1, none⟩ (.int .i64 X1.C)).setCell ⟨gv, 2, none⟩ (.slice cA cq cc)).setCell ⟨gv, 3, none⟩ (.int .u64 X1.R)).setCell ⟨gv, 4, none⟩ (.slice cB X1.n cb)).setCell ⟨gv, 5, none⟩ (.slice cC X1.n cd)).heap.size := by rw [hsz_]; exact hgr
        clear hk_ hsz_ hown hgr hoc hb0 hVc hWr hbc hbV hD f0 f1 f2 f3 f4 f5 e0 e1 e2 e3 e4 e5 ef0 ef1 ef2 ef3 ef4 ef5
        generalize ((((((W7.setCell ⟨gv, 0, none⟩ (.int .i64 X1.T)).setCell ⟨gv, 1, none⟩ (.int .i64 X1.C)).setCell ⟨gv, 2, none⟩ (.slice cA cq cc)).setCell ⟨gv, 3, none⟩ (.int .u64 X1.R)).setCell ⟨gv, 4, none⟩ (.slice cB X1.n cb)).setCell ⟨gv, 5, none⟩ (.slice cC X1.n cd)) = wg at *
        have hWn : Ext wg (wg.alloc (.cells #[.int .i64 x] 3)) := (Below.refl _ wg).alloc (Nat.le_refl _) _
        have hcn : ∀ (i : Nat) (u : Value), (intCells [x])[i]? = some u → (wg.alloc (.cells #[.int .i64 x] 3)).cell? ((⟨wg.heap.size, 0, none⟩ : Addr).add i) = some u := heap_cells (heap_alloc_new wg _)
        have hown2 := hown_.ext hWn
        go_wp2_with (at_builtin; go_loud (refine wpList_append_int rfl (.tmp 104) (.tmp 106) _ rfl gs i0 Try.underlying35 hi0 hz0 hz1 hz2 _ held.length held rfl hown2 ⟨wg.heap.size, 0, none⟩ 1 1 [x] rfl (by intro _; omega) rfl hcn (by omega) (Nat.le_trans hgr_ hWn.size) ?_); intro v2 w8 hown5 hg5 hob5)
        have hW5 := grownI_ext hown2 hg5 (hWs_.trans hWn) (by omega)
        have hb5 := grownI_heap hown2 hg5 (hown2.low (by omega)) (heap_ext hb0_ hWn)
        have hV5 := WldV.grownI hown2 hg5 (hVc_.ext hWn) hk1.2.2
        have hD5 := DirAt.grownI hown2 hg5 (hD_.ext hWn) hk1.2.2 hP2 hM2 hs1
        have hgr5 : gs ≤ w8.heap.size := Nat.le_trans hgr_ (Nat.le_trans hWn.size hg5.size)
        clear hown2 hg5 hob5 hcn hWn hown_ hb0_ hVc_ hgr_ hD_
        go_roundw
        case rel => exact ⟨j + 1, X1, pl, held ++ [x], by go_num, by omega, hD5, ⟨_, hb5, hV5⟩, hp1, hk1, hhk1, by simpa using hown5, hW5, hgr5⟩
        case measure => simp [intOf]; omega
set_option maxRecDepth 100000 in
theorem PoolDirect_lifted (os : Os) (started : os.Started) (H : Type) (enc : TypeId × Value → H) :
    ReturnsInHanded {} Try.checked os 7 .any (Rows.poolDirectSpec.pre6 enc Try.prog Try.f7 Rows.poolDirectRow.domain false) (Rows.poolDirectSpec.post enc Try.prog Try.f7 false true false false) := by
  refine law_row os started H enc Rows.poolDirectSpec rfl (fun ds h => by
    match ds, h with
    | [_, _], _ => rfl) (by kernel_rfl) Try.func7 rfl
    (by rw [Try.params7]; intro t ht; simp at ht; rcases ht with rfl | rfl <;> exact ⟨by kernel_rfl, of_decide_eq_true (by kernel_rfl)⟩)
    (ChangeSpec.witness6 (enc := enc) (C := Try.checked) false ⟨#[], #[.int .u8 0, .slice none 0 0], []⟩ 8 (by kernel_rfl) (by kernel_rfl) (by kernel_rfl) (by kernel_rfl)) ?_
  intro W base args ds ps hval hA hlt
  rw [Try.params7] at hA hval
  obtain ⟨v0, v1, d0, d1, p0, p1, rfl, rfl, rfl, h0, h1⟩ := trodAll_two hA
  obtain ⟨t, rfl, rfl, rfl, w1⟩ := open_int Try.underlying5 (hval 0 _ v0 rfl rfl) h0
  obtain ⟨M, m, mc, ms, rfl, hM⟩ := open_bytes1 (hval 1 _ v1 rfl rfl) h1
  have b1 := wf_u8 w1
  obtain ⟨tn, rfl⟩ := Int.eq_ofNat_of_zero_le b1.1
  exact pdirect_walk tn (by omega) M m mc ms W hM
theorem PoolDirect_holds : Rows.PoolDirectSaid :=
  OpenClaim.holds_of_wide 7 Try.f7 rfl rfl rfl rfl rfl rfl rfl ⟨rfl, rfl, rfl, rfl, rfl⟩ rfl rfl rfl rfl rfl (by kernel_rfl) Try.func7 (by kernel_rfl)
    (of_decide_eq_true (by kernel_rfl)) (by unfold Func.isWrapper; rw [if_neg (of_decide_eq_false (by kernel_rfl))]; exact ⟨rfl, rfl⟩)
    (fun os started H enc _ => PoolDirect_lifted os started H enc)
#print axioms PoolDirect_holds
end Go.Proofs.Ytkdjmfaodojmfaa
