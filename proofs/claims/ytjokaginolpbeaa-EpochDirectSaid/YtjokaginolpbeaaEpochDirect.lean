/- Proved: the law EpochDirect (made at once, pins, records that are taken and retired, and epochs, do what they do access by access: the same answers, and the same memory) returns true at every input and turns none of its arguments. No condition. -/
import Derived.Test.YtjokaginolpbeaaEpochDirectPartG
import Derived.Test.YtjokaginolpbeaaEpochDirectPartH
import Derived.Test.YtjokaginolpbeaaEpochDirectPartE
namespace Go.Proofs.Ytjokaginolpbeaa
open Go.ChangeShapes Go.WideShapes Go.ChangeAt Go.RowKit

set_option maxRecDepth 100000 in
set_option maxHeartbeats 20000000 in
theorem edirect_walk (cn : Nat) (hcn : cn < 256) (M : Option Addr) (m mc : Nat) (ms : List UInt8) (w : World) (hM : BytesV w M m mc ms) :
    Calls Try.prog 8 #[.int .u8 cn, .slice M m mc] w fun e w' => e = .returned (.bool true) ∧ Ext w w' := by
  have hmk := Nat.le_trans hM.le hM.cap
  simp only [maxLen] at hmk
  obtain ⟨i0, hi0, hz0, hz1, hz2⟩ := info_parts info_i64
  have hr1 : ∀ (W : World) (a : Int), (Instr.buildSlice 35 1 #[(0, .int .i64 a)]).run Try.prog W = .ok (.slice (some ⟨W.heap.size, 0, none⟩) 1 1) (W.alloc (.cells #[.int .i64 a] 3)) := fun _ _ => by kernel_rfl
  have hr6 : ∀ (W : World), (Instr.buildSlice 35 6 #[(0, .int .i64 3), (1, .int .i64 4), (2, .int .i64 6), (3, .int .i64 6), (4, .int .i64 5), (5, .int .i64 19)]).run Try.prog W = .ok (.slice (some ⟨W.heap.size, 0, none⟩) 6 6) (W.alloc (.cells #[.int .i64 3, .int .i64 4, .int .i64 6, .int .i64 6, .int .i64 5, .int .i64 19] 3)) := fun _ => by kernel_rfl
  have hbo : ∀ (W : World) (x : Int), (Instr.build 24 #[(0, .int .i64 x)]).run Try.prog W = .ok (.agg #[.int .i64 x, .int .i64 0, .int .i64 0, .int .u64 0]) W := fun _ _ => by kernel_rfl
  have hbz : ∀ (W : World), (Instr.build 37 #[]).run Try.prog W = .ok (.agg #[.int .i64 0, .bool false, .int .i64 0, .int .u64 0, .slice none 0 0]) W := fun _ => by kernel_rfl
  have q1 : IntKind.i64.wrap (cn : Int) = (cn : Int) := by rw [IntKind.wrap_i64]; omega
  have q2 : Int.tmod (cn : Int) 7 = (cn : Int) % 7 := by rw [Int.tmod_eq_emod_of_nonneg (by omega)]
  have q3 : IntKind.i64.wrap ((cn : Int) % 7) = (cn : Int) % 7 := by rw [IntKind.wrap_i64]; omega
  have q4 : (cn : Int) % 7 = ((cn % 7 : Nat) : Int) := by omega
  have hN : cn % 7 ≤ 6 := by omega
  generalize cn % 7 = N at *
  have hnew := fun W => ranew_yes 2 N (by omega) (by omega) (by omega) W
  have hp0 := newS_k (t := 2) (c := N) (by omega) (by omega) (by omega)
  have hk0 := new_wok (t := 2) (c := N) (by omega) (by omega) (by omega)
  have hs0 : (newS N).e ≤ 3 * 0 := Nat.le_refl _
  have hh0 := newS_he N
  generalize newW 2 N = X0 at *
  generalize newS N = S0 at *
  go_enter Try.func8, Try.ntmps8
  go_wp2_with fail
  refine (shown13_any _).mono ?_
  rintro e w1 ⟨rfl, hW⟩
  rcases (Decidable.em (m ≤ 30)).symm with h6 | h6
  · have h6' : (30 : Int) < (m : Int) := by omega
    go_wp2
    go_ret
    exact ⟨rfl, hW⟩
  have h6' : ¬ (30 : Int) < (m : Int) := by omega
  go_wp2_with fail
  refine (hnew _).mono ?_
  rintro e w_a ⟨v_, rfl, hVa, hx_⟩
  obtain ⟨aA, aq, ac, aB, ab, aC, ad, rfl⟩ := hVa.form6
  replace hW := hW.trans hx_
  clear hx_
  go_upto_region 6 with (fail)
  have hx_ : Ext w_a (w_a.alloc (.cells #[.int .i64 X0.T, .int .i64 X0.C, .slice aA aq ac, .int .u64 X0.R, .slice aB X0.n ab, .slice aC X0.n ad] 51)) := (Below.refl _ w_a).alloc (Nat.le_refl _) _
  have hba := heap_alloc_new w_a (.cells #[.int .i64 X0.T, .int .i64 X0.C, .slice aA aq ac, .int .u64 X0.R, .slice aB X0.n ab, .slice aC X0.n ad] 51)
  generalize w_a.alloc (.cells #[.int .i64 X0.T, .int .i64 X0.C, .slice aA aq ac, .int .u64 X0.R, .slice aB X0.n ab, .slice aC X0.n ad] 51) = W3 at *
  have hls := hW.size
  generalize w_a.heap.size = ga at *
  replace hVa := hVa.ext hx_
  replace hW := hW.trans hx_
  clear hx_
  have hlga : ga < W3.heap.size := (Array.getElem?_eq_some_iff.1 hba).1
  go_wp2_with fail
  refine (hnew _).mono ?_
  rintro e w_v ⟨v_, rfl, hVv, hx_⟩
  obtain ⟨vA, vq, vc, vB, vb, vC, vd, rfl⟩ := hVv.form6
  replace hba := heap_ext hba hx_
  replace hVa := hVa.ext hx_
  replace hW := hW.trans hx_
  replace hlga := Nat.lt_of_lt_of_le hlga hx_.size
  clear hx_
  go_upto_region 7 with (fail)
  have hx_ : Ext w_v (w_v.alloc (.cells #[.int .i64 X0.T, .int .i64 X0.C, .slice vA vq vc, .int .u64 X0.R, .slice vB X0.n vb, .slice vC X0.n vd] 51)) := (Below.refl _ w_v).alloc (Nat.le_refl _) _
  have hbv := heap_alloc_new w_v (.cells #[.int .i64 X0.T, .int .i64 X0.C, .slice vA vq vc, .int .u64 X0.R, .slice vB X0.n vb, .slice vC X0.n vd] 51)
  generalize w_v.alloc (.cells #[.int .i64 X0.T, .int .i64 X0.C, .slice vA vq vc, .int .u64 X0.R, .slice vB X0.n vb, .slice vC X0.n vd] 51) = W4 at *
  have hlsv := hW.size
  generalize w_v.heap.size = gv at *
  replace hba := heap_ext hba hx_
  replace hVa := hVa.ext hx_
  replace hVv := hVv.ext hx_
  replace hW := hW.trans hx_
  clear hx_
  have hng : gv ≠ ga := by omega
  have hng' : ¬ ga = gv := by omega
  have hbxa : BoxW W4 ga X0 := ⟨_, hba, hVa⟩
  have hbxv : BoxW W4 gv X0 := ⟨_, hbv, hVv⟩
  obtain ⟨gs, hgs⟩ : ∃ gs, gs = W4.heap.size := ⟨_, rfl⟩
  have hgr : gs ≤ W4.heap.size := Nat.le_of_eq hgs
  have hs2 : gv < gs := by rw [hgs]; exact (Array.getElem?_eq_some_iff.1 hbv).1
  have hs1 : ga < gs := by rw [hgs]; exact (Array.getElem?_eq_some_iff.1 hba).1
  have hls2 : w.heap.size ≤ gs := by omega
  clear hba hVa hbv hVv hgs hlga hnew q1 q2 q3
  go_wp2
  go_loopw [9, 10] (fun hv iv wr => ∃ (j : Nat) (Xj : WldK) (S : EpS) (held : List Int), iv = .int .i64 (j : Int) ∧ j ≤ m ∧ BoxW wr ga Xj ∧ BoxW wr gv Xj ∧ EpK Xj 2 N S ∧ WOk Xj ∧ HE N S held ∧ S.e ≤ 3 * j ∧ IntOwn wr gs hv held.length held ∧ Ext w wr ∧ gs ≤ wr.heap.size) (fun _ iv _ => m - (intOf iv).toNat)
  case atStart => exact ⟨0, X0, S0, [], rfl, Nat.zero_le _, hbxa, hbxv, hp0, hk0, hh0, hs0, IntOwn.nil _ _, hW, hgr⟩
  case round =>
    clear hp0 hk0 hh0 hs0 hW hbxa hbxv hgr
    obtain ⟨j, Xj, S, held, rfl, hj, hbxa, hbxv, hpj, hkj, hhe, hse, hown, hWr, hgr⟩ := hrel
    obtain ⟨aA, aq, ac, aB, ab, aC, ad, ha0, haV⟩ := hbxa.form
    obtain ⟨bA, bq, bc, bB, bb, bC, bd, hb0, hbV⟩ := hbxv.form
    clear hbxa hbxv
    have hhN := hhe.len
    obtain ⟨hvB, hvc, rfl, -, -, -, hle1, hle2⟩ := hown.form
    simp only [maxLen] at hle2
    rcases (Nat.lt_or_ge j m).symm with hjm | hjm
    · obtain rfl : j = m := by omega
      have hjI : ¬ (j : Int) < (j : Int) := by omega
      have hwl : Xj.ws.length ≤ 1000000 := by rw [hpj.dim.len]; unfold memL; omega
      have a0 : wr.cell? ⟨ga, 0, none⟩ = some (.int .i64 Xj.T) := by simp [World.cell?, ha0]
      have a1 : wr.cell? ⟨ga, 1, none⟩ = some (.int .i64 Xj.C) := by simp [World.cell?, ha0]
      have a2 : wr.cell? ⟨ga, 2, none⟩ = some (.slice aA aq ac) := by simp [World.cell?, ha0]
      have a3 : wr.cell? ⟨ga, 3, none⟩ = some (.int .u64 Xj.R) := by simp [World.cell?, ha0]
      have a4 : wr.cell? ⟨ga, 4, none⟩ = some (.slice aB Xj.n ab) := by simp [World.cell?, ha0]
      have a5 : wr.cell? ⟨ga, 5, none⟩ = some (.slice aC Xj.n ad) := by simp [World.cell?, ha0]
      have e0 : wr.cell? ⟨gv, 0, none⟩ = some (.int .i64 Xj.T) := by simp [World.cell?, hb0]
      have e1 : wr.cell? ⟨gv, 1, none⟩ = some (.int .i64 Xj.C) := by simp [World.cell?, hb0]
      have e2 : wr.cell? ⟨gv, 2, none⟩ = some (.slice bA bq bc) := by simp [World.cell?, hb0]
      have e3 : wr.cell? ⟨gv, 3, none⟩ = some (.int .u64 Xj.R) := by simp [World.cell?, hb0]
      have e4 : wr.cell? ⟨gv, 4, none⟩ = some (.slice bB Xj.n bb) := by simp [World.cell?, hb0]
      have e5 : wr.cell? ⟨gv, 5, none⟩ = some (.slice bC Xj.n bd) := by simp [World.cell?, hb0]
      go_wp2_with fail
      refine (rasame_yes haV hbV hwl).mono ?_
      rintro e w3 ⟨rfl, hx_⟩
      clear haV hbV ha0 hb0 hown hpj hkj hhe a0 a1 a2 a3 a4 a5 e0 e1 e2 e3 e4 e5
      go_wp2
      go_ret
      exact ⟨rfl, hWr.trans hx_⟩
    have hjI : (j : Int) < (m : Int) := by omega
    obtain ⟨adr, z, rfl, hcz, hzz⟩ := bytes_cell (hM.ext hWr) hjm
    have hy4 : IntKind.i64.wrap (z : Int) = (z : Int) := by rw [IntKind.wrap_i64]; omega
    have hy5 : Int.tdiv (z : Int) 8 = (z : Int) / 8 := by rw [Int.tdiv_eq_ediv_of_nonneg (by omega)]
    have hy6 : IntKind.i64.wrap ((z : Int) / 8) = (z : Int) / 8 := by rw [IntKind.wrap_i64]; omega
    obtain ⟨me, hme, hme2⟩ : ∃ me : Nat, me < 2 ∧ Int.tmod ((z : Int) / 8) 2 = (me : Int) := ⟨z / 8 % 2, by omega, by rw [Int.tmod_eq_emod_of_nonneg (by omega)]; omega⟩
    have hy7 : IntKind.i64.wrap (me : Int) = (me : Int) := by rw [IntKind.wrap_i64]; omega
    go_wp2_with fail
    refine (direct13_any ga (me : Int) Xj _ _ _ _ _ _ _ _ ha0 haV).mono ?_
    rintro e w5 ⟨gP, gM, rfl, hD, hP1, hM1, hP2, hM2, hx_⟩
    replace hb0 := heap_ext hb0 hx_
    replace hbV := hbV.ext hx_
    replace hown := hown.ext hx_
    replace hWr := hWr.trans hx_
    replace hcz := hx_.cell hcz
    have hnP : gP ≠ gv := by omega
    have hnM : gM ≠ gv := by omega
    have hPs : gs ≤ gP := by omega
    have hMs : gs ≤ gM := by omega
    replace hgr := Nat.le_trans hgr hx_.size
    clear ha0 haV hx_ hy4 hy5 hy6
    simp only [dirV13]
    have hkind : z % 6 = 0 ∨ z % 6 = 1 ∨ z % 6 = 2 ∨ z % 6 = 3 ∨ z % 6 = 4 ∨ z % 6 = 5 := by omega
    rcases hkind with hz | hz | hz | hz | hz | hz
    · have hz6 : Int.tmod (z : Int) 6 = 0 := by rw [Int.tmod_eq_emod_of_nonneg (by omega)]; omega
      have hz6u : IntKind.u8.wrap 0 = 0 := by rfl
      have hxk : Ext w5 (w5.alloc (.cells #[.int .i64 3, .int .i64 4, .int .i64 6, .int .i64 6, .int .i64 5, .int .i64 19] 3)) := (Below.refl _ w5).alloc (Nat.le_refl _) _
      have hczk := hxk.cell hcz
      have hkk := heap_alloc_new w5 (.cells #[.int .i64 3, .int .i64 4, .int .i64 6, .int .i64 6, .int .i64 5, .int .i64 19] 3)
      have hkc : (w5.alloc (.cells #[.int .i64 3, .int .i64 4, .int .i64 6, .int .i64 6, .int .i64 5, .int .i64 19] 3)).cell? ⟨w5.heap.size, 0, none⟩ = some (.int .i64 3) := by unfold World.cell?; rw [hkk]; rfl
      clear hxk hkk
      go_upto_region 14 with (fail)
      obtain ⟨hx_, hks, hop⟩ := two_boxes7 w5 (.cells #[.int .i64 3, .int .i64 4, .int .i64 6, .int .i64 6, .int .i64 5, .int .i64 19] 3) (.cells #[.int .i64 3, .int .i64 0, .int .i64 0, .int .u64 0] 24)
      generalize (w5.alloc (.cells #[.int .i64 3, .int .i64 4, .int .i64 6, .int .i64 6, .int .i64 5, .int .i64 19] 3)).alloc (.cells #[.int .i64 3, .int .i64 0, .int .i64 0, .int .u64 0] 24) = W6 at *
      have hgk := hgr
      replace hgr := Nat.le_trans hgr hx_.size
      have hlk : gP < w5.heap.size ∧ gM < w5.heap.size := ⟨hP2, hM2⟩
      generalize w5.heap.size = gk at *
      replace hb0 := heap_ext hb0 hx_
      replace hbV := hbV.ext hx_
      replace hown := hown.ext hx_
      replace hD := hD.ext hx_
      replace hWr := hWr.trans hx_
      clear hx_
      clear hks hcz hczk hkc hz6 hz6u hP1 hM1 hP2 hM2
      have o0 : W6.cell? ⟨gk + 1, 0, none⟩ = some (.int .i64 3) := by simp [World.cell?, hop]
      have o1 : W6.cell? ⟨gk + 1, 1, none⟩ = some (.int .i64 0) := by simp [World.cell?, hop]
      have o2 : W6.cell? ⟨gk + 1, 2, none⟩ = some (.int .i64 0) := by simp [World.cell?, hop]
      have o3 : W6.cell? ⟨gk + 1, 3, none⟩ = some (.int .u64 0) := by simp [World.cell?, hop]
      go_upto_region 17 with (fail)
      have hx_ : Ext W6 (W6.alloc (.cells #[.int .i64 0, .bool false, .int .i64 0, .int .u64 0, .slice none 0 0] 37)) := (Below.refl _ W6).alloc (Nat.le_refl _) _
      have hou := heap_alloc_new W6 (.cells #[.int .i64 0, .bool false, .int .i64 0, .int .u64 0, .slice none 0 0] 37)
      generalize W6.alloc (.cells #[.int .i64 0, .bool false, .int .i64 0, .int .u64 0, .slice none 0 0] 37) = W7 at *
      have hgu : gk + 1 < W6.heap.size := (Array.getElem?_eq_some_iff.1 hop).1
      replace hgr := Nat.le_trans hgr hx_.size
      generalize W6.heap.size = gu at *
      clear o0 o1 o2 o3
      replace hb0 := heap_ext hb0 hx_
      replace hop := heap_ext hop hx_
      replace hbV := hbV.ext hx_
      replace hown := hown.ext hx_
      replace hD := hD.ext hx_
      replace hWr := hWr.trans hx_
      clear hx_
      have hgu2 : gu < W7.heap.size := (Array.getElem?_eq_some_iff.1 hou).1
      have o0 : W7.cell? ⟨gk + 1, 0, none⟩ = some (.int .i64 3) := by simp [World.cell?, hop]
      have o1 : W7.cell? ⟨gk + 1, 1, none⟩ = some (.int .i64 0) := by simp [World.cell?, hop]
      have o2 : W7.cell? ⟨gk + 1, 2, none⟩ = some (.int .i64 0) := by simp [World.cell?, hop]
      have o3 : W7.cell? ⟨gk + 1, 3, none⟩ = some (.int .u64 0) := by simp [World.cell?, hop]
      have u0 : W7.cell? ⟨gu, 0, none⟩ = some (.int .i64 0) := by simp [World.cell?, hou]
      have uf0 : W7.frozen? ⟨gu, 0, none⟩ = false := by simp [World.frozen?, hou]
      have u1 : W7.cell? ⟨gu, 1, none⟩ = some (.bool false) := by simp [World.cell?, hou]
      have uf1 : W7.frozen? ⟨gu, 1, none⟩ = false := by simp [World.frozen?, hou]
      have u2 : W7.cell? ⟨gu, 2, none⟩ = some (.int .i64 0) := by simp [World.cell?, hou]
      have uf2 : W7.frozen? ⟨gu, 2, none⟩ = false := by simp [World.frozen?, hou]
      have u3 : W7.cell? ⟨gu, 3, none⟩ = some (.int .u64 0) := by simp [World.cell?, hou]
      have uf3 : W7.frozen? ⟨gu, 3, none⟩ = false := by simp [World.frozen?, hou]
      have u4 : W7.cell? ⟨gu, 4, none⟩ = some (.slice none 0 0) := by simp [World.cell?, hou]
      have uf4 : W7.frozen? ⟨gu, 4, none⟩ = false := by simp [World.frozen?, hou]
      obtain ⟨X1, hp1, hk1, hcon, hdc⟩ := both_pin hpj hkj hme (most := 300) (by omega) (by omega) (by omega)
      have hse1 : (S.pin me ((S.e : Int) + 1)).e ≤ 3 * (j + 1) := Nat.le_trans hse (by omega)
      have hhe1 : HE N (S.pin me ((S.e : Int) + 1)) held := ⟨hhe.nodup, hhe.rng, hhe.len⟩
      generalize S.pin me ((S.e : Int) + 1) = S1 at *
      simp only [AloneC] at hcon
      rw [show (((300 : Nat) : Int)) = 300 from rfl] at hcon
      simp only [dirV13] at hdc
      try rw [show (((2 : Nat) : Int)) = 2 from rfl] at hdc
      clear hhe hpj hse
      go_wp2_with fail
      refine (hdc _ _ _ _ hD).mono ?_
      rintro e w9 ⟨rfl, hD9, hx_⟩
      obtain ⟨dA, dq, dc, dB, db, dC, dd, hd0, -⟩ := hD.wld
      have hb09 := hx_.heap hb0 hng
      have hop9 := hx_.heap hop (by omega)
      have hou9 := hx_.heap hou (by omega)
      have hbV9 := hbV.extB hx_ hd0 rfl hkj.2.2
      have hown9 := hown.kept (fun g o hb hv ho => hx_.heap ho (by omega))
      have hWr9 := hx_.ext hWr hls
      have hgr9 := Nat.le_trans hgr hx_.size
      have hgu9 := Nat.lt_of_lt_of_le hgu2 hx_.size
      clear hd0 hb0 hbV hown hWr hgr hD hx_ hdc hop hou hgu2 o0 o1 o2 o3 u0 u1 u2 u3 u4 uf0 uf1 uf2 uf3 uf4
      have hb0 := hb09
      have hbV := hbV9
      have hown := hown9
      have hWr := hWr9
      have hgr := hgr9
      have hD := hD9
      have hop := hop9
      have hou := hou9
      have hgu2 := hgu9
      clear hb09 hbV9 hown9 hWr9 hgr9 hD9 hop9 hou9 hgu9
      have o0 : w9.cell? ⟨gk + 1, 0, none⟩ = some (.int .i64 3) := by simp [World.cell?, hop]
      have o1 : w9.cell? ⟨gk + 1, 1, none⟩ = some (.int .i64 0) := by simp [World.cell?, hop]
      have o2 : w9.cell? ⟨gk + 1, 2, none⟩ = some (.int .i64 0) := by simp [World.cell?, hop]
      have o3 : w9.cell? ⟨gk + 1, 3, none⟩ = some (.int .u64 0) := by simp [World.cell?, hop]
      have u0 : w9.cell? ⟨gu, 0, none⟩ = some (.int .i64 0) := by simp [World.cell?, hou]
      have u1 : w9.cell? ⟨gu, 1, none⟩ = some (.bool false) := by simp [World.cell?, hou]
      have u2 : w9.cell? ⟨gu, 2, none⟩ = some (.int .i64 0) := by simp [World.cell?, hou]
      have u3 : w9.cell? ⟨gu, 3, none⟩ = some (.int .u64 0) := by simp [World.cell?, hou]
      have u4 : w9.cell? ⟨gu, 4, none⟩ = some (.slice none 0 0) := by simp [World.cell?, hou]
      obtain ⟨dA, dq, dc, dB, db, dC, dd, hd0, hdV⟩ := hD.wld
      clear hD
      have e0 : w9.cell? ⟨gv, 0, none⟩ = some (.int .i64 Xj.T) := by simp [World.cell?, hb0]
      have e1 : w9.cell? ⟨gv, 1, none⟩ = some (.int .i64 Xj.C) := by simp [World.cell?, hb0]
      have e2 : w9.cell? ⟨gv, 2, none⟩ = some (.slice bA bq bc) := by simp [World.cell?, hb0]
      have e3 : w9.cell? ⟨gv, 3, none⟩ = some (.int .u64 Xj.R) := by simp [World.cell?, hb0]
      have e4 : w9.cell? ⟨gv, 4, none⟩ = some (.slice bB Xj.n bb) := by simp [World.cell?, hb0]
      have e5 : w9.cell? ⟨gv, 5, none⟩ = some (.slice bC Xj.n bd) := by simp [World.cell?, hb0]
      go_wp2_with fail
      refine (hcon _ _ _ _ hbV).mono ?_
      clear hcon
      rintro e w12 ⟨v_, rfl, hVc, hx_⟩
      obtain ⟨cA, cq, cc, cB, cb, cC, cd, rfl⟩ := hVc.form6
      replace hgr := Nat.le_trans hgr hx_.size
      replace hgu2 := Nat.lt_of_lt_of_le hgu2 hx_.size
      clear o0 o1 o2 o3 u0 u1 u2 u3 u4 e0 e1 e2 e3 e4 e5
      replace hb0 := heap_ext hb0 hx_
      replace hop := heap_ext hop hx_
      replace hou := heap_ext hou hx_
      replace hd0 := heap_ext hd0 hx_
      replace hbV := hbV.ext hx_
      replace hown := hown.ext hx_
      replace hdV := hdV.ext hx_
      replace hWr := hWr.trans hx_
      clear hx_
      go_upto_region 35 with (fail)
      obtain ⟨hx_, hbc, hoc⟩ := two_boxes7 w12 (.cells #[.int .i64 X1.T, .int .i64 X1.C, .slice cA cq cc, .int .u64 X1.R, .slice cB X1.n cb, .slice cC X1.n cd] 51) (.cells #[.int .i64 0, .bool false, .int .i64 0, .int .u64 0, .slice none 0 0] 37)
      generalize (w12.alloc (.cells #[.int .i64 X1.T, .int .i64 X1.C, .slice cA cq cc, .int .u64 X1.R, .slice cB X1.n cb, .slice cC X1.n cd] 51)).alloc (.cells #[.int .i64 0, .bool false, .int .i64 0, .int .u64 0, .slice none 0 0] 37) = W12 at *
      have hgc := hgr
      have hguc := hgu2
      replace hgr := Nat.le_trans hgr hx_.size
      generalize w12.heap.size = gc at *
      replace hb0 := heap_ext hb0 hx_
      replace hop := heap_ext hop hx_
      replace hou := heap_ext hou hx_
      replace hd0 := heap_ext hd0 hx_
      replace hbV := hbV.ext hx_
      replace hown := hown.ext hx_
      replace hdV := hdV.ext hx_
      replace hVc := hVc.ext hx_
      replace hWr := hWr.trans hx_
      clear hx_
      have r0 : W12.cell? ⟨gc + 1, 0, none⟩ = some (.int .i64 0) := by simp [World.cell?, hoc]
      have r1 : W12.cell? ⟨gc + 1, 1, none⟩ = some (.bool false) := by simp [World.cell?, hoc]
      have r2 : W12.cell? ⟨gc + 1, 2, none⟩ = some (.int .i64 0) := by simp [World.cell?, hoc]
      have r3 : W12.cell? ⟨gc + 1, 3, none⟩ = some (.int .u64 0) := by simp [World.cell?, hoc]
      have r4 : W12.cell? ⟨gc + 1, 4, none⟩ = some (.slice none 0 0) := by simp [World.cell?, hoc]
      have u0 : W12.cell? ⟨gu, 0, none⟩ = some (.int .i64 0) := by simp [World.cell?, hou]
      have u1 : W12.cell? ⟨gu, 1, none⟩ = some (.bool false) := by simp [World.cell?, hou]
      have u2 : W12.cell? ⟨gu, 2, none⟩ = some (.int .i64 0) := by simp [World.cell?, hou]
      have u3 : W12.cell? ⟨gu, 3, none⟩ = some (.int .u64 0) := by simp [World.cell?, hou]
      have u4 : W12.cell? ⟨gu, 4, none⟩ = some (.slice none 0 0) := by simp [World.cell?, hou]
      go_wp2_with fail
      refine (outs_lit _).mono ?_
      rintro e w13 ⟨rfl, hx_⟩
      replace hgr := Nat.le_trans hgr hx_.size
      clear r0 r1 r2 r3 r4 u0 u1 u2 u3 u4
      replace hb0 := heap_ext hb0 hx_
      replace hop := heap_ext hop hx_
      replace hou := heap_ext hou hx_
      replace hd0 := heap_ext hd0 hx_
      replace hbc := heap_ext hbc hx_
      replace hoc := heap_ext hoc hx_
      replace hbV := hbV.ext hx_
      replace hown := hown.ext hx_
      replace hdV := hdV.ext hx_
      replace hVc := hVc.ext hx_
      replace hWr := hWr.trans hx_
      clear hx_
      go_upto_region 37 with (fail)
      have nc : ¬ gv = gc := by omega
      have nc' : ¬ gc = gv := by omega
      have f0 : w13.cell? ⟨gc, 0, none⟩ = some (.int .i64 X1.T) := by simp [World.cell?, hbc]
      have f1 : w13.cell? ⟨gc, 1, none⟩ = some (.int .i64 X1.C) := by simp [World.cell?, hbc]
      have f2 : w13.cell? ⟨gc, 2, none⟩ = some (.slice cA cq cc) := by simp [World.cell?, hbc]
      have f3 : w13.cell? ⟨gc, 3, none⟩ = some (.int .u64 X1.R) := by simp [World.cell?, hbc]
      have f4 : w13.cell? ⟨gc, 4, none⟩ = some (.slice cB X1.n cb) := by simp [World.cell?, hbc]
      have f5 : w13.cell? ⟨gc, 5, none⟩ = some (.slice cC X1.n cd) := by simp [World.cell?, hbc]
      have e0 : w13.cell? ⟨gv, 0, none⟩ = some (.int .i64 Xj.T) := by simp [World.cell?, hb0]
      have ef0 : w13.frozen? ⟨gv, 0, none⟩ = false := by simp [World.frozen?, hb0]
      have e1 : w13.cell? ⟨gv, 1, none⟩ = some (.int .i64 Xj.C) := by simp [World.cell?, hb0]
      have ef1 : w13.frozen? ⟨gv, 1, none⟩ = false := by simp [World.frozen?, hb0]
      have e2 : w13.cell? ⟨gv, 2, none⟩ = some (.slice bA bq bc) := by simp [World.cell?, hb0]
      have ef2 : w13.frozen? ⟨gv, 2, none⟩ = false := by simp [World.frozen?, hb0]
      have e3 : w13.cell? ⟨gv, 3, none⟩ = some (.int .u64 Xj.R) := by simp [World.cell?, hb0]
      have ef3 : w13.frozen? ⟨gv, 3, none⟩ = false := by simp [World.frozen?, hb0]
      have e4 : w13.cell? ⟨gv, 4, none⟩ = some (.slice bB Xj.n bb) := by simp [World.cell?, hb0]
      have ef4 : w13.frozen? ⟨gv, 4, none⟩ = false := by simp [World.frozen?, hb0]
      have e5 : w13.cell? ⟨gv, 5, none⟩ = some (.slice bC Xj.n bd) := by simp [World.cell?, hb0]
      have ef5 : w13.frozen? ⟨gv, 5, none⟩ = false := by simp [World.frozen?, hb0]
      go_wp2
      have hb0_ : ((((((w13.setCell ⟨gv, 0, none⟩ (.int .i64 X1.T)).setCell ⟨gv, 1, none⟩ (.int .i64 X1.C)).setCell ⟨gv, 2, none⟩ (.slice cA cq cc)).setCell ⟨gv, 3, none⟩ (.int .u64 X1.R)).setCell ⟨gv, 4, none⟩ (.slice cB X1.n cb)).setCell ⟨gv, 5, none⟩ (.slice cC X1.n cd)).heap[gv]? = some (.cells #[.int .i64 X1.T, .int .i64 X1.C, .slice cA cq cc, .int .u64 X1.R, .slice cB X1.n cb, .slice cC X1.n cd] 51 (0, 0)) := setAll_all (vs := [.int .i64 X1.T, .int .i64 X1.C, .slice cA cq cc, .int .u64 X1.R, .slice cB X1.n cb, .slice cC X1.n cd]) hb0 rfl
      have hWs_ : Ext w ((((((w13.setCell ⟨gv, 0, none⟩ (.int .i64 X1.T)).setCell ⟨gv, 1, none⟩ (.int .i64 X1.C)).setCell ⟨gv, 2, none⟩ (.slice cA cq cc)).setCell ⟨gv, 3, none⟩ (.int .u64 X1.R)).setCell ⟨gv, 4, none⟩ (.slice cB X1.n cb)).setCell ⟨gv, 5, none⟩ (.slice cC X1.n cd)) := setAll_ext (g := gv) (vs := [.int .i64 X1.T, .int .i64 X1.C, .slice cA cq cc, .int .u64 X1.R, .slice cB X1.n cb, .slice cC X1.n cd]) (i := 0) hWr hlsv
      have hk_ : ∀ g, g ≠ gv → ((((((w13.setCell ⟨gv, 0, none⟩ (.int .i64 X1.T)).setCell ⟨gv, 1, none⟩ (.int .i64 X1.C)).setCell ⟨gv, 2, none⟩ (.slice cA cq cc)).setCell ⟨gv, 3, none⟩ (.int .u64 X1.R)).setCell ⟨gv, 4, none⟩ (.slice cB X1.n cb)).setCell ⟨gv, 5, none⟩ (.slice cC X1.n cd)).heap[g]? = w13.heap[g]? := fun g hg => setAll_other (g := gv) (k := g) hg [.int .i64 X1.T, .int .i64 X1.C, .slice cA cq cc, .int .u64 X1.R, .slice cB X1.n cb, .slice cC X1.n cd] 0 w13
      have hd0_ := (hk_ ga (Ne.symm hng)).trans hd0
      have hVc_ := hVc.but hk1.2.2 (But.all gv [.int .i64 X1.T, .int .i64 X1.C, .slice cA cq cc, .int .u64 X1.R, .slice cB X1.n cb, .slice cC X1.n cd] 0 w13) hb0 rfl
      change WldV ((((((w13.setCell ⟨gv, 0, none⟩ (.int .i64 X1.T)).setCell ⟨gv, 1, none⟩ (.int .i64 X1.C)).setCell ⟨gv, 2, none⟩ (.slice cA cq cc)).setCell ⟨gv, 3, none⟩ (.int .u64 X1.R)).setCell ⟨gv, 4, none⟩ (.slice cB X1.n cb)).setCell ⟨gv, 5, none⟩ (.slice cC X1.n cd)) _ _ at hVc_
      have hdV_ := hdV.but hk1.2.2 (But.all gv [.int .i64 X1.T, .int .i64 X1.C, .slice cA cq cc, .int .u64 X1.R, .slice cB X1.n cb, .slice cC X1.n cd] 0 w13) hb0 rfl
      change WldV ((((((w13.setCell ⟨gv, 0, none⟩ (.int .i64 X1.T)).setCell ⟨gv, 1, none⟩ (.int .i64 X1.C)).setCell ⟨gv, 2, none⟩ (.slice cA cq cc)).setCell ⟨gv, 3, none⟩ (.int .u64 X1.R)).setCell ⟨gv, 4, none⟩ (.slice cB X1.n cb)).setCell ⟨gv, 5, none⟩ (.slice cC X1.n cd)) _ _ at hdV_
      have hsz_ : ((((((w13.setCell ⟨gv, 0, none⟩ (.int .i64 X1.T)).setCell ⟨gv, 1, none⟩ (.int .i64 X1.C)).setCell ⟨gv, 2, none⟩ (.slice cA cq cc)).setCell ⟨gv, 3, none⟩ (.int .u64 X1.R)).setCell ⟨gv, 4, none⟩ (.slice cB X1.n cb)).setCell ⟨gv, 5, none⟩ (.slice cC X1.n cd)).heap.size = w13.heap.size := by simp [World.setCell]
      have hown_ := hown.kept (w' := ((((((w13.setCell ⟨gv, 0, none⟩ (.int .i64 X1.T)).setCell ⟨gv, 1, none⟩ (.int .i64 X1.C)).setCell ⟨gv, 2, none⟩ (.slice cA cq cc)).setCell ⟨gv, 3, none⟩ (.int .u64 X1.R)).setCell ⟨gv, 4, none⟩ (.slice cB X1.n cb)).setCell ⟨gv, 5, none⟩ (.slice cC X1.n cd))) (fun g o hb hv ho => (hk_ g (by omega)).trans ho)
      have hgr_ : gs ≤ ((((((w13.setCell ⟨gv, 0, none⟩ (.int .i64 X1.T)).setCell ⟨gv, 1, none⟩ (.int .i64 X1.C)).setCell ⟨gv, 2, none⟩ (.slice cA cq cc)).setCell ⟨gv, 3, none⟩ (.int .u64 X1.R)).setCell ⟨gv, 4, none⟩ (.slice cB X1.n cb)).setCell ⟨gv, 5, none⟩ (.slice cC X1.n cd)).heap.size := by rw [hsz_]; exact hgr
      clear hk_ hsz_ hown hgr hoc hou hop hb0 hVc hWr hbc hbV hd0 hdV f0 f1 f2 f3 f4 f5 e0 e1 e2 e3 e4 e5 ef0 ef1 ef2 ef3 ef4 ef5
      generalize ((((((w13.setCell ⟨gv, 0, none⟩ (.int .i64 X1.T)).setCell ⟨gv, 1, none⟩ (.int .i64 X1.C)).setCell ⟨gv, 2, none⟩ (.slice cA cq cc)).setCell ⟨gv, 3, none⟩ (.int .u64 X1.R)).setCell ⟨gv, 4, none⟩ (.slice cB X1.n cb)).setCell ⟨gv, 5, none⟩ (.slice cC X1.n cd)) = wg at *
      go_roundw
      case rel => exact ⟨j + 1, X1, S1, held, by go_num, by omega, ⟨_, hd0_, hdV_⟩, ⟨_, hb0_, hVc_⟩, hp1, hk1, hhe1, hse1, hown_, hWs_, hgr_⟩
      case measure => simp [intOf]; omega
    · have hz6 : Int.tmod (z : Int) 6 = 1 := by rw [Int.tmod_eq_emod_of_nonneg (by omega)]; omega
      have hz6u : IntKind.u8.wrap 1 = 1 := by rfl
      have hxk : Ext w5 (w5.alloc (.cells #[.int .i64 3, .int .i64 4, .int .i64 6, .int .i64 6, .int .i64 5, .int .i64 19] 3)) := (Below.refl _ w5).alloc (Nat.le_refl _) _
      have hczk := hxk.cell hcz
      have hkk := heap_alloc_new w5 (.cells #[.int .i64 3, .int .i64 4, .int .i64 6, .int .i64 6, .int .i64 5, .int .i64 19] 3)
      have hkc : (w5.alloc (.cells #[.int .i64 3, .int .i64 4, .int .i64 6, .int .i64 6, .int .i64 5, .int .i64 19] 3)).cell? ⟨w5.heap.size, 1, none⟩ = some (.int .i64 4) := by unfold World.cell?; rw [hkk]; rfl
      clear hxk hkk
      go_upto_region 14 with (fail)
      obtain ⟨hx_, hks, hop⟩ := two_boxes7 w5 (.cells #[.int .i64 3, .int .i64 4, .int .i64 6, .int .i64 6, .int .i64 5, .int .i64 19] 3) (.cells #[.int .i64 4, .int .i64 0, .int .i64 0, .int .u64 0] 24)
      generalize (w5.alloc (.cells #[.int .i64 3, .int .i64 4, .int .i64 6, .int .i64 6, .int .i64 5, .int .i64 19] 3)).alloc (.cells #[.int .i64 4, .int .i64 0, .int .i64 0, .int .u64 0] 24) = W6 at *
      have hgk := hgr
      replace hgr := Nat.le_trans hgr hx_.size
      have hlk : gP < w5.heap.size ∧ gM < w5.heap.size := ⟨hP2, hM2⟩
      generalize w5.heap.size = gk at *
      replace hb0 := heap_ext hb0 hx_
      replace hbV := hbV.ext hx_
      replace hown := hown.ext hx_
      replace hD := hD.ext hx_
      replace hWr := hWr.trans hx_
      clear hx_
      clear hks hcz hczk hkc hz6 hz6u hP1 hM1 hP2 hM2
      have o0 : W6.cell? ⟨gk + 1, 0, none⟩ = some (.int .i64 4) := by simp [World.cell?, hop]
      have o1 : W6.cell? ⟨gk + 1, 1, none⟩ = some (.int .i64 0) := by simp [World.cell?, hop]
      have o2 : W6.cell? ⟨gk + 1, 2, none⟩ = some (.int .i64 0) := by simp [World.cell?, hop]
      have o3 : W6.cell? ⟨gk + 1, 3, none⟩ = some (.int .u64 0) := by simp [World.cell?, hop]
      go_upto_region 17 with (fail)
      have hx_ : Ext W6 (W6.alloc (.cells #[.int .i64 0, .bool false, .int .i64 0, .int .u64 0, .slice none 0 0] 37)) := (Below.refl _ W6).alloc (Nat.le_refl _) _
      have hou := heap_alloc_new W6 (.cells #[.int .i64 0, .bool false, .int .i64 0, .int .u64 0, .slice none 0 0] 37)
      generalize W6.alloc (.cells #[.int .i64 0, .bool false, .int .i64 0, .int .u64 0, .slice none 0 0] 37) = W7 at *
      have hgu : gk + 1 < W6.heap.size := (Array.getElem?_eq_some_iff.1 hop).1
      replace hgr := Nat.le_trans hgr hx_.size
      generalize W6.heap.size = gu at *
      clear o0 o1 o2 o3
      replace hb0 := heap_ext hb0 hx_
      replace hop := heap_ext hop hx_
      replace hbV := hbV.ext hx_
      replace hown := hown.ext hx_
      replace hD := hD.ext hx_
      replace hWr := hWr.trans hx_
      clear hx_
      have hgu2 : gu < W7.heap.size := (Array.getElem?_eq_some_iff.1 hou).1
      have o0 : W7.cell? ⟨gk + 1, 0, none⟩ = some (.int .i64 4) := by simp [World.cell?, hop]
      have o1 : W7.cell? ⟨gk + 1, 1, none⟩ = some (.int .i64 0) := by simp [World.cell?, hop]
      have o2 : W7.cell? ⟨gk + 1, 2, none⟩ = some (.int .i64 0) := by simp [World.cell?, hop]
      have o3 : W7.cell? ⟨gk + 1, 3, none⟩ = some (.int .u64 0) := by simp [World.cell?, hop]
      have u0 : W7.cell? ⟨gu, 0, none⟩ = some (.int .i64 0) := by simp [World.cell?, hou]
      have uf0 : W7.frozen? ⟨gu, 0, none⟩ = false := by simp [World.frozen?, hou]
      have u1 : W7.cell? ⟨gu, 1, none⟩ = some (.bool false) := by simp [World.cell?, hou]
      have uf1 : W7.frozen? ⟨gu, 1, none⟩ = false := by simp [World.frozen?, hou]
      have u2 : W7.cell? ⟨gu, 2, none⟩ = some (.int .i64 0) := by simp [World.cell?, hou]
      have uf2 : W7.frozen? ⟨gu, 2, none⟩ = false := by simp [World.frozen?, hou]
      have u3 : W7.cell? ⟨gu, 3, none⟩ = some (.int .u64 0) := by simp [World.cell?, hou]
      have uf3 : W7.frozen? ⟨gu, 3, none⟩ = false := by simp [World.frozen?, hou]
      have u4 : W7.cell? ⟨gu, 4, none⟩ = some (.slice none 0 0) := by simp [World.cell?, hou]
      have uf4 : W7.frozen? ⟨gu, 4, none⟩ = false := by simp [World.frozen?, hou]
      obtain ⟨X1, hp1, hk1, hcon, hdc⟩ := both_unpin hpj hkj hme (most := 300) (by omega) (by omega)
      have hse1 : (S.pin me 0).e ≤ 3 * (j + 1) := Nat.le_trans hse (by omega)
      have hhe1 : HE N (S.pin me 0) held := ⟨hhe.nodup, hhe.rng, hhe.len⟩
      generalize S.pin me 0 = S1 at *
      simp only [AloneC] at hcon
      rw [show (((300 : Nat) : Int)) = 300 from rfl] at hcon
      simp only [dirV13] at hdc
      try rw [show (((2 : Nat) : Int)) = 2 from rfl] at hdc
      clear hhe hpj hse
      go_wp2_with fail
      refine (hdc _ _ _ _ hD).mono ?_
      rintro e w9 ⟨rfl, hD9, hx_⟩
      obtain ⟨dA, dq, dc, dB, db, dC, dd, hd0, -⟩ := hD.wld
      have hb09 := hx_.heap hb0 hng
      have hop9 := hx_.heap hop (by omega)
      have hou9 := hx_.heap hou (by omega)
      have hbV9 := hbV.extB hx_ hd0 rfl hkj.2.2
      have hown9 := hown.kept (fun g o hb hv ho => hx_.heap ho (by omega))
      have hWr9 := hx_.ext hWr hls
      have hgr9 := Nat.le_trans hgr hx_.size
      have hgu9 := Nat.lt_of_lt_of_le hgu2 hx_.size
      clear hd0 hb0 hbV hown hWr hgr hD hx_ hdc hop hou hgu2 o0 o1 o2 o3 u0 u1 u2 u3 u4 uf0 uf1 uf2 uf3 uf4
      have hb0 := hb09
      have hbV := hbV9
      have hown := hown9
      have hWr := hWr9
      have hgr := hgr9
      have hD := hD9
      have hop := hop9
      have hou := hou9
      have hgu2 := hgu9
      clear hb09 hbV9 hown9 hWr9 hgr9 hD9 hop9 hou9 hgu9
      have o0 : w9.cell? ⟨gk + 1, 0, none⟩ = some (.int .i64 4) := by simp [World.cell?, hop]
      have o1 : w9.cell? ⟨gk + 1, 1, none⟩ = some (.int .i64 0) := by simp [World.cell?, hop]
      have o2 : w9.cell? ⟨gk + 1, 2, none⟩ = some (.int .i64 0) := by simp [World.cell?, hop]
      have o3 : w9.cell? ⟨gk + 1, 3, none⟩ = some (.int .u64 0) := by simp [World.cell?, hop]
      have u0 : w9.cell? ⟨gu, 0, none⟩ = some (.int .i64 0) := by simp [World.cell?, hou]
      have u1 : w9.cell? ⟨gu, 1, none⟩ = some (.bool false) := by simp [World.cell?, hou]
      have u2 : w9.cell? ⟨gu, 2, none⟩ = some (.int .i64 0) := by simp [World.cell?, hou]
      have u3 : w9.cell? ⟨gu, 3, none⟩ = some (.int .u64 0) := by simp [World.cell?, hou]
      have u4 : w9.cell? ⟨gu, 4, none⟩ = some (.slice none 0 0) := by simp [World.cell?, hou]
      obtain ⟨dA, dq, dc, dB, db, dC, dd, hd0, hdV⟩ := hD.wld
      clear hD
      have e0 : w9.cell? ⟨gv, 0, none⟩ = some (.int .i64 Xj.T) := by simp [World.cell?, hb0]
      have e1 : w9.cell? ⟨gv, 1, none⟩ = some (.int .i64 Xj.C) := by simp [World.cell?, hb0]
      have e2 : w9.cell? ⟨gv, 2, none⟩ = some (.slice bA bq bc) := by simp [World.cell?, hb0]
      have e3 : w9.cell? ⟨gv, 3, none⟩ = some (.int .u64 Xj.R) := by simp [World.cell?, hb0]
      have e4 : w9.cell? ⟨gv, 4, none⟩ = some (.slice bB Xj.n bb) := by simp [World.cell?, hb0]
      have e5 : w9.cell? ⟨gv, 5, none⟩ = some (.slice bC Xj.n bd) := by simp [World.cell?, hb0]
      go_wp2_with fail
      refine (hcon _ _ _ _ hbV).mono ?_
      clear hcon
      rintro e w12 ⟨v_, rfl, hVc, hx_⟩
      obtain ⟨cA, cq, cc, cB, cb, cC, cd, rfl⟩ := hVc.form6
      replace hgr := Nat.le_trans hgr hx_.size
      replace hgu2 := Nat.lt_of_lt_of_le hgu2 hx_.size
      clear o0 o1 o2 o3 u0 u1 u2 u3 u4 e0 e1 e2 e3 e4 e5
      replace hb0 := heap_ext hb0 hx_
      replace hop := heap_ext hop hx_
      replace hou := heap_ext hou hx_
      replace hd0 := heap_ext hd0 hx_
      replace hbV := hbV.ext hx_
      replace hown := hown.ext hx_
      replace hdV := hdV.ext hx_
      replace hWr := hWr.trans hx_
      clear hx_
      go_upto_region 35 with (fail)
      obtain ⟨hx_, hbc, hoc⟩ := two_boxes7 w12 (.cells #[.int .i64 X1.T, .int .i64 X1.C, .slice cA cq cc, .int .u64 X1.R, .slice cB X1.n cb, .slice cC X1.n cd] 51) (.cells #[.int .i64 0, .bool false, .int .i64 0, .int .u64 0, .slice none 0 0] 37)
      generalize (w12.alloc (.cells #[.int .i64 X1.T, .int .i64 X1.C, .slice cA cq cc, .int .u64 X1.R, .slice cB X1.n cb, .slice cC X1.n cd] 51)).alloc (.cells #[.int .i64 0, .bool false, .int .i64 0, .int .u64 0, .slice none 0 0] 37) = W12 at *
      have hgc := hgr
      have hguc := hgu2
      replace hgr := Nat.le_trans hgr hx_.size
      generalize w12.heap.size = gc at *
      replace hb0 := heap_ext hb0 hx_
      replace hop := heap_ext hop hx_
      replace hou := heap_ext hou hx_
      replace hd0 := heap_ext hd0 hx_
      replace hbV := hbV.ext hx_
      replace hown := hown.ext hx_
      replace hdV := hdV.ext hx_
      replace hVc := hVc.ext hx_
      replace hWr := hWr.trans hx_
      clear hx_
      have r0 : W12.cell? ⟨gc + 1, 0, none⟩ = some (.int .i64 0) := by simp [World.cell?, hoc]
      have r1 : W12.cell? ⟨gc + 1, 1, none⟩ = some (.bool false) := by simp [World.cell?, hoc]
      have r2 : W12.cell? ⟨gc + 1, 2, none⟩ = some (.int .i64 0) := by simp [World.cell?, hoc]
      have r3 : W12.cell? ⟨gc + 1, 3, none⟩ = some (.int .u64 0) := by simp [World.cell?, hoc]
      have r4 : W12.cell? ⟨gc + 1, 4, none⟩ = some (.slice none 0 0) := by simp [World.cell?, hoc]
      have u0 : W12.cell? ⟨gu, 0, none⟩ = some (.int .i64 0) := by simp [World.cell?, hou]
      have u1 : W12.cell? ⟨gu, 1, none⟩ = some (.bool false) := by simp [World.cell?, hou]
      have u2 : W12.cell? ⟨gu, 2, none⟩ = some (.int .i64 0) := by simp [World.cell?, hou]
      have u3 : W12.cell? ⟨gu, 3, none⟩ = some (.int .u64 0) := by simp [World.cell?, hou]
      have u4 : W12.cell? ⟨gu, 4, none⟩ = some (.slice none 0 0) := by simp [World.cell?, hou]
      go_wp2_with fail
      refine (outs_lit _).mono ?_
      rintro e w13 ⟨rfl, hx_⟩
      replace hgr := Nat.le_trans hgr hx_.size
      clear r0 r1 r2 r3 r4 u0 u1 u2 u3 u4
      replace hb0 := heap_ext hb0 hx_
      replace hop := heap_ext hop hx_
      replace hou := heap_ext hou hx_
      replace hd0 := heap_ext hd0 hx_
      replace hbc := heap_ext hbc hx_
      replace hoc := heap_ext hoc hx_
      replace hbV := hbV.ext hx_
      replace hown := hown.ext hx_
      replace hdV := hdV.ext hx_
      replace hVc := hVc.ext hx_
      replace hWr := hWr.trans hx_
      clear hx_
      go_upto_region 37 with (fail)
      have nc : ¬ gv = gc := by omega
      have nc' : ¬ gc = gv := by omega
      have f0 : w13.cell? ⟨gc, 0, none⟩ = some (.int .i64 X1.T) := by simp [World.cell?, hbc]
      have f1 : w13.cell? ⟨gc, 1, none⟩ = some (.int .i64 X1.C) := by simp [World.cell?, hbc]
      have f2 : w13.cell? ⟨gc, 2, none⟩ = some (.slice cA cq cc) := by simp [World.cell?, hbc]
      have f3 : w13.cell? ⟨gc, 3, none⟩ = some (.int .u64 X1.R) := by simp [World.cell?, hbc]
      have f4 : w13.cell? ⟨gc, 4, none⟩ = some (.slice cB X1.n cb) := by simp [World.cell?, hbc]
      have f5 : w13.cell? ⟨gc, 5, none⟩ = some (.slice cC X1.n cd) := by simp [World.cell?, hbc]
      have e0 : w13.cell? ⟨gv, 0, none⟩ = some (.int .i64 Xj.T) := by simp [World.cell?, hb0]
      have ef0 : w13.frozen? ⟨gv, 0, none⟩ = false := by simp [World.frozen?, hb0]
      have e1 : w13.cell? ⟨gv, 1, none⟩ = some (.int .i64 Xj.C) := by simp [World.cell?, hb0]
      have ef1 : w13.frozen? ⟨gv, 1, none⟩ = false := by simp [World.frozen?, hb0]
      have e2 : w13.cell? ⟨gv, 2, none⟩ = some (.slice bA bq bc) := by simp [World.cell?, hb0]
      have ef2 : w13.frozen? ⟨gv, 2, none⟩ = false := by simp [World.frozen?, hb0]
      have e3 : w13.cell? ⟨gv, 3, none⟩ = some (.int .u64 Xj.R) := by simp [World.cell?, hb0]
      have ef3 : w13.frozen? ⟨gv, 3, none⟩ = false := by simp [World.frozen?, hb0]
      have e4 : w13.cell? ⟨gv, 4, none⟩ = some (.slice bB Xj.n bb) := by simp [World.cell?, hb0]
      have ef4 : w13.frozen? ⟨gv, 4, none⟩ = false := by simp [World.frozen?, hb0]
      have e5 : w13.cell? ⟨gv, 5, none⟩ = some (.slice bC Xj.n bd) := by simp [World.cell?, hb0]
      have ef5 : w13.frozen? ⟨gv, 5, none⟩ = false := by simp [World.frozen?, hb0]
      go_wp2
      have hb0_ : ((((((w13.setCell ⟨gv, 0, none⟩ (.int .i64 X1.T)).setCell ⟨gv, 1, none⟩ (.int .i64 X1.C)).setCell ⟨gv, 2, none⟩ (.slice cA cq cc)).setCell ⟨gv, 3, none⟩ (.int .u64 X1.R)).setCell ⟨gv, 4, none⟩ (.slice cB X1.n cb)).setCell ⟨gv, 5, none⟩ (.slice cC X1.n cd)).heap[gv]? = some (.cells #[.int .i64 X1.T, .int .i64 X1.C, .slice cA cq cc, .int .u64 X1.R, .slice cB X1.n cb, .slice cC X1.n cd] 51 (0, 0)) := setAll_all (vs := [.int .i64 X1.T, .int .i64 X1.C, .slice cA cq cc, .int .u64 X1.R, .slice cB X1.n cb, .slice cC X1.n cd]) hb0 rfl
      have hWs_ : Ext w ((((((w13.setCell ⟨gv, 0, none⟩ (.int .i64 X1.T)).setCell ⟨gv, 1, none⟩ (.int .i64 X1.C)).setCell ⟨gv, 2, none⟩ (.slice cA cq cc)).setCell ⟨gv, 3, none⟩ (.int .u64 X1.R)).setCell ⟨gv, 4, none⟩ (.slice cB X1.n cb)).setCell ⟨gv, 5, none⟩ (.slice cC X1.n cd)) := setAll_ext (g := gv) (vs := [.int .i64 X1.T, .int .i64 X1.C, .slice cA cq cc, .int .u64 X1.R, .slice cB X1.n cb, .slice cC X1.n cd]) (i := 0) hWr hlsv
      have hk_ : ∀ g, g ≠ gv → ((((((w13.setCell ⟨gv, 0, none⟩ (.int .i64 X1.T)).setCell ⟨gv, 1, none⟩ (.int .i64 X1.C)).setCell ⟨gv, 2, none⟩ (.slice cA cq cc)).setCell ⟨gv, 3, none⟩ (.int .u64 X1.R)).setCell ⟨gv, 4, none⟩ (.slice cB X1.n cb)).setCell ⟨gv, 5, none⟩ (.slice cC X1.n cd)).heap[g]? = w13.heap[g]? := fun g hg => setAll_other (g := gv) (k := g) hg [.int .i64 X1.T, .int .i64 X1.C, .slice cA cq cc, .int .u64 X1.R, .slice cB X1.n cb, .slice cC X1.n cd] 0 w13
      have hd0_ := (hk_ ga (Ne.symm hng)).trans hd0
      have hVc_ := hVc.but hk1.2.2 (But.all gv [.int .i64 X1.T, .int .i64 X1.C, .slice cA cq cc, .int .u64 X1.R, .slice cB X1.n cb, .slice cC X1.n cd] 0 w13) hb0 rfl
      change WldV ((((((w13.setCell ⟨gv, 0, none⟩ (.int .i64 X1.T)).setCell ⟨gv, 1, none⟩ (.int .i64 X1.C)).setCell ⟨gv, 2, none⟩ (.slice cA cq cc)).setCell ⟨gv, 3, none⟩ (.int .u64 X1.R)).setCell ⟨gv, 4, none⟩ (.slice cB X1.n cb)).setCell ⟨gv, 5, none⟩ (.slice cC X1.n cd)) _ _ at hVc_
      have hdV_ := hdV.but hk1.2.2 (But.all gv [.int .i64 X1.T, .int .i64 X1.C, .slice cA cq cc, .int .u64 X1.R, .slice cB X1.n cb, .slice cC X1.n cd] 0 w13) hb0 rfl
      change WldV ((((((w13.setCell ⟨gv, 0, none⟩ (.int .i64 X1.T)).setCell ⟨gv, 1, none⟩ (.int .i64 X1.C)).setCell ⟨gv, 2, none⟩ (.slice cA cq cc)).setCell ⟨gv, 3, none⟩ (.int .u64 X1.R)).setCell ⟨gv, 4, none⟩ (.slice cB X1.n cb)).setCell ⟨gv, 5, none⟩ (.slice cC X1.n cd)) _ _ at hdV_
      have hsz_ : ((((((w13.setCell ⟨gv, 0, none⟩ (.int .i64 X1.T)).setCell ⟨gv, 1, none⟩ (.int .i64 X1.C)).setCell ⟨gv, 2, none⟩ (.slice cA cq cc)).setCell ⟨gv, 3, none⟩ (.int .u64 X1.R)).setCell ⟨gv, 4, none⟩ (.slice cB X1.n cb)).setCell ⟨gv, 5, none⟩ (.slice cC X1.n cd)).heap.size = w13.heap.size := by simp [World.setCell]
      have hown_ := hown.kept (w' := ((((((w13.setCell ⟨gv, 0, none⟩ (.int .i64 X1.T)).setCell ⟨gv, 1, none⟩ (.int .i64 X1.C)).setCell ⟨gv, 2, none⟩ (.slice cA cq cc)).setCell ⟨gv, 3, none⟩ (.int .u64 X1.R)).setCell ⟨gv, 4, none⟩ (.slice cB X1.n cb)).setCell ⟨gv, 5, none⟩ (.slice cC X1.n cd))) (fun g o hb hv ho => (hk_ g (by omega)).trans ho)
      have hgr_ : gs ≤ ((((((w13.setCell ⟨gv, 0, none⟩ (.int .i64 X1.T)).setCell ⟨gv, 1, none⟩ (.int .i64 X1.C)).setCell ⟨gv, 2, none⟩ (.slice cA cq cc)).setCell ⟨gv, 3, none⟩ (.int .u64 X1.R)).setCell ⟨gv, 4, none⟩ (.slice cB X1.n cb)).setCell ⟨gv, 5, none⟩ (.slice cC X1.n cd)).heap.size := by rw [hsz_]; exact hgr
      clear hk_ hsz_ hown hgr hoc hou hop hb0 hVc hWr hbc hbV hd0 hdV f0 f1 f2 f3 f4 f5 e0 e1 e2 e3 e4 e5 ef0 ef1 ef2 ef3 ef4 ef5
      generalize ((((((w13.setCell ⟨gv, 0, none⟩ (.int .i64 X1.T)).setCell ⟨gv, 1, none⟩ (.int .i64 X1.C)).setCell ⟨gv, 2, none⟩ (.slice cA cq cc)).setCell ⟨gv, 3, none⟩ (.int .u64 X1.R)).setCell ⟨gv, 4, none⟩ (.slice cB X1.n cb)).setCell ⟨gv, 5, none⟩ (.slice cC X1.n cd)) = wg at *
      go_roundw
      case rel => exact ⟨j + 1, X1, S1, held, by go_num, by omega, ⟨_, hd0_, hdV_⟩, ⟨_, hb0_, hVc_⟩, hp1, hk1, hhe1, hse1, hown_, hWs_, hgr_⟩
      case measure => simp [intOf]; omega
    · have hz6 : Int.tmod (z : Int) 6 = 2 := by rw [Int.tmod_eq_emod_of_nonneg (by omega)]; omega
      have hz6u : IntKind.u8.wrap 2 = 2 := by rfl
      have hxk : Ext w5 (w5.alloc (.cells #[.int .i64 3, .int .i64 4, .int .i64 6, .int .i64 6, .int .i64 5, .int .i64 19] 3)) := (Below.refl _ w5).alloc (Nat.le_refl _) _
      have hczk := hxk.cell hcz
      have hkk := heap_alloc_new w5 (.cells #[.int .i64 3, .int .i64 4, .int .i64 6, .int .i64 6, .int .i64 5, .int .i64 19] 3)
      have hkc : (w5.alloc (.cells #[.int .i64 3, .int .i64 4, .int .i64 6, .int .i64 6, .int .i64 5, .int .i64 19] 3)).cell? ⟨w5.heap.size, 2, none⟩ = some (.int .i64 6) := by unfold World.cell?; rw [hkk]; rfl
      clear hxk hkk
      go_upto_region 14 with (fail)
      obtain ⟨hx_, hks, hop⟩ := two_boxes7 w5 (.cells #[.int .i64 3, .int .i64 4, .int .i64 6, .int .i64 6, .int .i64 5, .int .i64 19] 3) (.cells #[.int .i64 6, .int .i64 0, .int .i64 0, .int .u64 0] 24)
      generalize (w5.alloc (.cells #[.int .i64 3, .int .i64 4, .int .i64 6, .int .i64 6, .int .i64 5, .int .i64 19] 3)).alloc (.cells #[.int .i64 6, .int .i64 0, .int .i64 0, .int .u64 0] 24) = W6 at *
      have hgk := hgr
      replace hgr := Nat.le_trans hgr hx_.size
      have hlk : gP < w5.heap.size ∧ gM < w5.heap.size := ⟨hP2, hM2⟩
      generalize w5.heap.size = gk at *
      replace hb0 := heap_ext hb0 hx_
      replace hbV := hbV.ext hx_
      replace hown := hown.ext hx_
      replace hD := hD.ext hx_
      replace hWr := hWr.trans hx_
      clear hx_
      clear hks hcz hczk hkc hz6 hz6u hP1 hM1 hP2 hM2
      have o0 : W6.cell? ⟨gk + 1, 0, none⟩ = some (.int .i64 6) := by simp [World.cell?, hop]
      have o1 : W6.cell? ⟨gk + 1, 1, none⟩ = some (.int .i64 0) := by simp [World.cell?, hop]
      have o2 : W6.cell? ⟨gk + 1, 2, none⟩ = some (.int .i64 0) := by simp [World.cell?, hop]
      have o3 : W6.cell? ⟨gk + 1, 3, none⟩ = some (.int .u64 0) := by simp [World.cell?, hop]
      go_upto_region 17 with (fail)
      have hx_ : Ext W6 (W6.alloc (.cells #[.int .i64 0, .bool false, .int .i64 0, .int .u64 0, .slice none 0 0] 37)) := (Below.refl _ W6).alloc (Nat.le_refl _) _
      have hou := heap_alloc_new W6 (.cells #[.int .i64 0, .bool false, .int .i64 0, .int .u64 0, .slice none 0 0] 37)
      generalize W6.alloc (.cells #[.int .i64 0, .bool false, .int .i64 0, .int .u64 0, .slice none 0 0] 37) = W7 at *
      have hgu : gk + 1 < W6.heap.size := (Array.getElem?_eq_some_iff.1 hop).1
      replace hgr := Nat.le_trans hgr hx_.size
      generalize W6.heap.size = gu at *
      clear o0 o1 o2 o3
      replace hb0 := heap_ext hb0 hx_
      replace hop := heap_ext hop hx_
      replace hbV := hbV.ext hx_
      replace hown := hown.ext hx_
      replace hD := hD.ext hx_
      replace hWr := hWr.trans hx_
      clear hx_
      have hgu2 : gu < W7.heap.size := (Array.getElem?_eq_some_iff.1 hou).1
      have o0 : W7.cell? ⟨gk + 1, 0, none⟩ = some (.int .i64 6) := by simp [World.cell?, hop]
      have o1 : W7.cell? ⟨gk + 1, 1, none⟩ = some (.int .i64 0) := by simp [World.cell?, hop]
      have o2 : W7.cell? ⟨gk + 1, 2, none⟩ = some (.int .i64 0) := by simp [World.cell?, hop]
      have o3 : W7.cell? ⟨gk + 1, 3, none⟩ = some (.int .u64 0) := by simp [World.cell?, hop]
      have u0 : W7.cell? ⟨gu, 0, none⟩ = some (.int .i64 0) := by simp [World.cell?, hou]
      have uf0 : W7.frozen? ⟨gu, 0, none⟩ = false := by simp [World.frozen?, hou]
      have u1 : W7.cell? ⟨gu, 1, none⟩ = some (.bool false) := by simp [World.cell?, hou]
      have uf1 : W7.frozen? ⟨gu, 1, none⟩ = false := by simp [World.frozen?, hou]
      have u2 : W7.cell? ⟨gu, 2, none⟩ = some (.int .i64 0) := by simp [World.cell?, hou]
      have uf2 : W7.frozen? ⟨gu, 2, none⟩ = false := by simp [World.frozen?, hou]
      have u3 : W7.cell? ⟨gu, 3, none⟩ = some (.int .u64 0) := by simp [World.cell?, hou]
      have uf3 : W7.frozen? ⟨gu, 3, none⟩ = false := by simp [World.frozen?, hou]
      have u4 : W7.cell? ⟨gu, 4, none⟩ = some (.slice none 0 0) := by simp [World.cell?, hou]
      have uf4 : W7.frozen? ⟨gu, 4, none⟩ = false := by simp [World.frozen?, hou]
      obtain ⟨X1, hp1, hk1, hcon, hdc⟩ := both_alloc hpj hkj hme (most := 300) (by omega) (by omega) (by omega)
      have hal := alloc_perm (t := 2) (me := me) (fun x hx => (hpj.rng x hx).1)
      have hae := alloc_e3 S 2 me
      generalize S.alloc 2 me = q at *
      obtain ⟨S1, r⟩ := q
      obtain ⟨ha1, ha2⟩ := hal
      replace ha1 : r = 0 → S1.all.Perm S.all := ha1
      replace ha2 : r ≠ 0 → S.all.Perm (r :: S1.all) := ha2
      replace hae : S1.e ≤ S.e + 3 := hae
      replace hp1 : EpK X1 2 N S1 := hp1
      have hse1 : S1.e ≤ 3 * (j + 1) := by omega
      have hfin : (r = 0 ∧ HE N S1 held) ∨ (0 < r ∧ held.length < N ∧ HE N S1 (held ++ [r])) := by
        by_cases hr : r = 0
        · exact .inl ⟨hr, hhe.perm (ha1 hr)⟩
        · have ht := hhe.take (ha2 hr)
          have hl := (ha2 hr).length_eq
          simp at hl
          have := ht.rng r (by simp)
          exact .inr ⟨by omega, by omega, ht⟩
      clear ha1 ha2 hae
      replace hcon : AloneC 2 me 300 6 0 ⟨0, false, r, 0⟩ Xj X1 := hcon
      simp only [AloneC] at hcon
      rw [show (((300 : Nat) : Int)) = 300 from rfl] at hcon
      simp only [dirV13] at hdc
      try rw [show (((2 : Nat) : Int)) = 2 from rfl] at hdc
      clear hhe hpj hse
      go_wp2_with fail
      refine (hdc _ _ _ _ hD).mono ?_
      rintro e w9 ⟨rfl, hD9, hx_⟩
      obtain ⟨dA, dq, dc, dB, db, dC, dd, hd0, -⟩ := hD.wld
      have hb09 := hx_.heap hb0 hng
      have hop9 := hx_.heap hop (by omega)
      have hou9 := hx_.heap hou (by omega)
      have hbV9 := hbV.extB hx_ hd0 rfl hkj.2.2
      have hown9 := hown.kept (fun g o hb hv ho => hx_.heap ho (by omega))
      have hWr9 := hx_.ext hWr hls
      have hgr9 := Nat.le_trans hgr hx_.size
      have hgu9 := Nat.lt_of_lt_of_le hgu2 hx_.size
      clear hd0 hb0 hbV hown hWr hgr hD hx_ hdc hop hou hgu2 o0 o1 o2 o3 u0 u1 u2 u3 u4 uf0 uf1 uf2 uf3 uf4
      have hb0 := hb09
      have hbV := hbV9
      have hown := hown9
      have hWr := hWr9
      have hgr := hgr9
      have hD := hD9
      have hop := hop9
      have hou := hou9
      have hgu2 := hgu9
      clear hb09 hbV9 hown9 hWr9 hgr9 hD9 hop9 hou9 hgu9
      have u0 : w9.cell? ⟨gu, 0, none⟩ = some (.int .i64 0) := by simp [World.cell?, hou]
      have uf0 : w9.frozen? ⟨gu, 0, none⟩ = false := by simp [World.frozen?, hou]
      have u1 : w9.cell? ⟨gu, 1, none⟩ = some (.bool false) := by simp [World.cell?, hou]
      have uf1 : w9.frozen? ⟨gu, 1, none⟩ = false := by simp [World.frozen?, hou]
      have u2 : w9.cell? ⟨gu, 2, none⟩ = some (.int .i64 0) := by simp [World.cell?, hou]
      have uf2 : w9.frozen? ⟨gu, 2, none⟩ = false := by simp [World.frozen?, hou]
      have u3 : w9.cell? ⟨gu, 3, none⟩ = some (.int .u64 0) := by simp [World.cell?, hou]
      have uf3 : w9.frozen? ⟨gu, 3, none⟩ = false := by simp [World.frozen?, hou]
      have u4 : w9.cell? ⟨gu, 4, none⟩ = some (.slice none 0 0) := by simp [World.cell?, hou]
      have uf4 : w9.frozen? ⟨gu, 4, none⟩ = false := by simp [World.frozen?, hou]
      go_upto_region 24 with (fail)
      obtain ⟨hou2, hbut, hsz_⟩ := set_box (i := 2) (v := .int .i64 r) hou (by decide)
      have hWr2 : Ext w (w9.setCell ⟨gu, 2, none⟩ (.int .i64 r)) := set_ext hWr (by omega)
      have hb02 := hbut _ _ (by omega) hb0
      have hop2 := hbut _ _ (by omega) hop
      have hbV2 := hbV.but hkj.2.2 hbut hou rfl
      have hD2 := hD.but hbut hou rfl hk1.2.2 (by omega) (by omega) (by omega)
      have hown2 : IntOwn (w9.setCell ⟨gu, 2, none⟩ (.int .i64 r)) gs _ held.length held := hown.kept (fun g o hb hv ho => hbut _ _ (fun e => hown.ne_box hou (by decide) (by rw [← hv, e])) ho)
      replace hgr : gs ≤ (w9.setCell ⟨gu, 2, none⟩ (.int .i64 r)).heap.size := by rw [hsz_]; exact hgr
      replace hgu2 : gu < (w9.setCell ⟨gu, 2, none⟩ (.int .i64 r)).heap.size := by rw [hsz_]; exact hgu2
      clear hop hb0 hou hbV hD hown hWr hbut hsz_ u0 u1 u2 u3 u4 uf0 uf1 uf2 uf3 uf4
      generalize (w9.setCell ⟨gu, 2, none⟩ (.int .i64 r)) = W10 at *
      have hop := hop2
      have hb0 := hb02
      have hou := hou2
      have hbV := hbV2
      have hD := hD2
      have hown := hown2
      have hWr := hWr2
      clear hop2 hb02 hou2 hbV2 hD2 hown2 hWr2
      rcases hfin with ⟨rfl, hhe1⟩ | ⟨hrp, hlN, hhe1⟩
      · skip
        have o0 : W10.cell? ⟨gk + 1, 0, none⟩ = some (.int .i64 6) := by simp [World.cell?, hop]
        have o1 : W10.cell? ⟨gk + 1, 1, none⟩ = some (.int .i64 0) := by simp [World.cell?, hop]
        have o2 : W10.cell? ⟨gk + 1, 2, none⟩ = some (.int .i64 0) := by simp [World.cell?, hop]
        have o3 : W10.cell? ⟨gk + 1, 3, none⟩ = some (.int .u64 0) := by simp [World.cell?, hop]
        have u0 : W10.cell? ⟨gu, 0, none⟩ = some (.int .i64 0) := by simp [World.cell?, hou]
        have u1 : W10.cell? ⟨gu, 1, none⟩ = some (.bool false) := by simp [World.cell?, hou]
        have u2 : W10.cell? ⟨gu, 2, none⟩ = some (.int .i64 0) := by simp [World.cell?, hou]
        have u3 : W10.cell? ⟨gu, 3, none⟩ = some (.int .u64 0) := by simp [World.cell?, hou]
        have u4 : W10.cell? ⟨gu, 4, none⟩ = some (.slice none 0 0) := by simp [World.cell?, hou]
        obtain ⟨dA, dq, dc, dB, db, dC, dd, hd0, hdV⟩ := hD.wld
        clear hD
        have e0 : W10.cell? ⟨gv, 0, none⟩ = some (.int .i64 Xj.T) := by simp [World.cell?, hb0]
        have e1 : W10.cell? ⟨gv, 1, none⟩ = some (.int .i64 Xj.C) := by simp [World.cell?, hb0]
        have e2 : W10.cell? ⟨gv, 2, none⟩ = some (.slice bA bq bc) := by simp [World.cell?, hb0]
        have e3 : W10.cell? ⟨gv, 3, none⟩ = some (.int .u64 Xj.R) := by simp [World.cell?, hb0]
        have e4 : W10.cell? ⟨gv, 4, none⟩ = some (.slice bB Xj.n bb) := by simp [World.cell?, hb0]
        have e5 : W10.cell? ⟨gv, 5, none⟩ = some (.slice bC Xj.n bd) := by simp [World.cell?, hb0]
        go_wp2_with fail
        refine (hcon _ _ _ _ hbV).mono ?_
        clear hcon
        rintro e w12 ⟨v_, rfl, hVc, hx_⟩
        obtain ⟨cA, cq, cc, cB, cb, cC, cd, rfl⟩ := hVc.form6
        replace hgr := Nat.le_trans hgr hx_.size
        replace hgu2 := Nat.lt_of_lt_of_le hgu2 hx_.size
        clear o0 o1 o2 o3 u0 u1 u2 u3 u4 e0 e1 e2 e3 e4 e5
        replace hb0 := heap_ext hb0 hx_
        replace hop := heap_ext hop hx_
        replace hou := heap_ext hou hx_
        replace hd0 := heap_ext hd0 hx_
        replace hbV := hbV.ext hx_
        replace hown := hown.ext hx_
        replace hdV := hdV.ext hx_
        replace hWr := hWr.trans hx_
        clear hx_
        go_upto_region 35 with (fail)
        obtain ⟨hx_, hbc, hoc⟩ := two_boxes7 w12 (.cells #[.int .i64 X1.T, .int .i64 X1.C, .slice cA cq cc, .int .u64 X1.R, .slice cB X1.n cb, .slice cC X1.n cd] 51) (.cells #[.int .i64 0, .bool false, .int .i64 0, .int .u64 0, .slice none 0 0] 37)
        generalize (w12.alloc (.cells #[.int .i64 X1.T, .int .i64 X1.C, .slice cA cq cc, .int .u64 X1.R, .slice cB X1.n cb, .slice cC X1.n cd] 51)).alloc (.cells #[.int .i64 0, .bool false, .int .i64 0, .int .u64 0, .slice none 0 0] 37) = W12 at *
        have hgc := hgr
        have hguc := hgu2
        replace hgr := Nat.le_trans hgr hx_.size
        generalize w12.heap.size = gc at *
        replace hb0 := heap_ext hb0 hx_
        replace hop := heap_ext hop hx_
        replace hou := heap_ext hou hx_
        replace hd0 := heap_ext hd0 hx_
        replace hbV := hbV.ext hx_
        replace hown := hown.ext hx_
        replace hdV := hdV.ext hx_
        replace hVc := hVc.ext hx_
        replace hWr := hWr.trans hx_
        clear hx_
        have r0 : W12.cell? ⟨gc + 1, 0, none⟩ = some (.int .i64 0) := by simp [World.cell?, hoc]
        have r1 : W12.cell? ⟨gc + 1, 1, none⟩ = some (.bool false) := by simp [World.cell?, hoc]
        have r2 : W12.cell? ⟨gc + 1, 2, none⟩ = some (.int .i64 0) := by simp [World.cell?, hoc]
        have r3 : W12.cell? ⟨gc + 1, 3, none⟩ = some (.int .u64 0) := by simp [World.cell?, hoc]
        have r4 : W12.cell? ⟨gc + 1, 4, none⟩ = some (.slice none 0 0) := by simp [World.cell?, hoc]
        have u0 : W12.cell? ⟨gu, 0, none⟩ = some (.int .i64 0) := by simp [World.cell?, hou]
        have u1 : W12.cell? ⟨gu, 1, none⟩ = some (.bool false) := by simp [World.cell?, hou]
        have u2 : W12.cell? ⟨gu, 2, none⟩ = some (.int .i64 0) := by simp [World.cell?, hou]
        have u3 : W12.cell? ⟨gu, 3, none⟩ = some (.int .u64 0) := by simp [World.cell?, hou]
        have u4 : W12.cell? ⟨gu, 4, none⟩ = some (.slice none 0 0) := by simp [World.cell?, hou]
        go_wp2_with fail
        refine (outs_lit _).mono ?_
        rintro e w13 ⟨rfl, hx_⟩
        replace hgr := Nat.le_trans hgr hx_.size
        clear r0 r1 r2 r3 r4 u0 u1 u2 u3 u4
        replace hb0 := heap_ext hb0 hx_
        replace hop := heap_ext hop hx_
        replace hou := heap_ext hou hx_
        replace hd0 := heap_ext hd0 hx_
        replace hbc := heap_ext hbc hx_
        replace hoc := heap_ext hoc hx_
        replace hbV := hbV.ext hx_
        replace hown := hown.ext hx_
        replace hdV := hdV.ext hx_
        replace hVc := hVc.ext hx_
        replace hWr := hWr.trans hx_
        clear hx_
        go_upto_region 37 with (fail)
        have nc : ¬ gv = gc := by omega
        have nc' : ¬ gc = gv := by omega
        have f0 : w13.cell? ⟨gc, 0, none⟩ = some (.int .i64 X1.T) := by simp [World.cell?, hbc]
        have f1 : w13.cell? ⟨gc, 1, none⟩ = some (.int .i64 X1.C) := by simp [World.cell?, hbc]
        have f2 : w13.cell? ⟨gc, 2, none⟩ = some (.slice cA cq cc) := by simp [World.cell?, hbc]
        have f3 : w13.cell? ⟨gc, 3, none⟩ = some (.int .u64 X1.R) := by simp [World.cell?, hbc]
        have f4 : w13.cell? ⟨gc, 4, none⟩ = some (.slice cB X1.n cb) := by simp [World.cell?, hbc]
        have f5 : w13.cell? ⟨gc, 5, none⟩ = some (.slice cC X1.n cd) := by simp [World.cell?, hbc]
        have e0 : w13.cell? ⟨gv, 0, none⟩ = some (.int .i64 Xj.T) := by simp [World.cell?, hb0]
        have ef0 : w13.frozen? ⟨gv, 0, none⟩ = false := by simp [World.frozen?, hb0]
        have e1 : w13.cell? ⟨gv, 1, none⟩ = some (.int .i64 Xj.C) := by simp [World.cell?, hb0]
        have ef1 : w13.frozen? ⟨gv, 1, none⟩ = false := by simp [World.frozen?, hb0]
        have e2 : w13.cell? ⟨gv, 2, none⟩ = some (.slice bA bq bc) := by simp [World.cell?, hb0]
        have ef2 : w13.frozen? ⟨gv, 2, none⟩ = false := by simp [World.frozen?, hb0]
        have e3 : w13.cell? ⟨gv, 3, none⟩ = some (.int .u64 Xj.R) := by simp [World.cell?, hb0]
        have ef3 : w13.frozen? ⟨gv, 3, none⟩ = false := by simp [World.frozen?, hb0]
        have e4 : w13.cell? ⟨gv, 4, none⟩ = some (.slice bB Xj.n bb) := by simp [World.cell?, hb0]
        have ef4 : w13.frozen? ⟨gv, 4, none⟩ = false := by simp [World.frozen?, hb0]
        have e5 : w13.cell? ⟨gv, 5, none⟩ = some (.slice bC Xj.n bd) := by simp [World.cell?, hb0]
        have ef5 : w13.frozen? ⟨gv, 5, none⟩ = false := by simp [World.frozen?, hb0]
        go_wp2
        have hb0_ : ((((((w13.setCell ⟨gv, 0, none⟩ (.int .i64 X1.T)).setCell ⟨gv, 1, none⟩ (.int .i64 X1.C)).setCell ⟨gv, 2, none⟩ (.slice cA cq cc)).setCell ⟨gv, 3, none⟩ (.int .u64 X1.R)).setCell ⟨gv, 4, none⟩ (.slice cB X1.n cb)).setCell ⟨gv, 5, none⟩ (.slice cC X1.n cd)).heap[gv]? = some (.cells #[.int .i64 X1.T, .int .i64 X1.C, .slice cA cq cc, .int .u64 X1.R, .slice cB X1.n cb, .slice cC X1.n cd] 51 (0, 0)) := setAll_all (vs := [.int .i64 X1.T, .int .i64 X1.C, .slice cA cq cc, .int .u64 X1.R, .slice cB X1.n cb, .slice cC X1.n cd]) hb0 rfl
        have hWs_ : Ext w ((((((w13.setCell ⟨gv, 0, none⟩ (.int .i64 X1.T)).setCell ⟨gv, 1, none⟩ (.int .i64 X1.C)).setCell ⟨gv, 2, none⟩ (.slice cA cq cc)).setCell ⟨gv, 3, none⟩ (.int .u64 X1.R)).setCell ⟨gv, 4, none⟩ (.slice cB X1.n cb)).setCell ⟨gv, 5, none⟩ (.slice cC X1.n cd)) := setAll_ext (g := gv) (vs := [.int .i64 X1.T, .int .i64 X1.C, .slice cA cq cc, .int .u64 X1.R, .slice cB X1.n cb, .slice cC X1.n cd]) (i := 0) hWr hlsv
        have hk_ : ∀ g, g ≠ gv → ((((((w13.setCell ⟨gv, 0, none⟩ (.int .i64 X1.T)).setCell ⟨gv, 1, none⟩ (.int .i64 X1.C)).setCell ⟨gv, 2, none⟩ (.slice cA cq cc)).setCell ⟨gv, 3, none⟩ (.int .u64 X1.R)).setCell ⟨gv, 4, none⟩ (.slice cB X1.n cb)).setCell ⟨gv, 5, none⟩ (.slice cC X1.n cd)).heap[g]? = w13.heap[g]? := fun g hg => setAll_other (g := gv) (k := g) hg [.int .i64 X1.T, .int .i64 X1.C, .slice cA cq cc, .int .u64 X1.R, .slice cB X1.n cb, .slice cC X1.n cd] 0 w13
        have hd0_ := (hk_ ga (Ne.symm hng)).trans hd0
        have hVc_ := hVc.but hk1.2.2 (But.all gv [.int .i64 X1.T, .int .i64 X1.C, .slice cA cq cc, .int .u64 X1.R, .slice cB X1.n cb, .slice cC X1.n cd] 0 w13) hb0 rfl
        change WldV ((((((w13.setCell ⟨gv, 0, none⟩ (.int .i64 X1.T)).setCell ⟨gv, 1, none⟩ (.int .i64 X1.C)).setCell ⟨gv, 2, none⟩ (.slice cA cq cc)).setCell ⟨gv, 3, none⟩ (.int .u64 X1.R)).setCell ⟨gv, 4, none⟩ (.slice cB X1.n cb)).setCell ⟨gv, 5, none⟩ (.slice cC X1.n cd)) _ _ at hVc_
        have hdV_ := hdV.but hk1.2.2 (But.all gv [.int .i64 X1.T, .int .i64 X1.C, .slice cA cq cc, .int .u64 X1.R, .slice cB X1.n cb, .slice cC X1.n cd] 0 w13) hb0 rfl
        change WldV ((((((w13.setCell ⟨gv, 0, none⟩ (.int .i64 X1.T)).setCell ⟨gv, 1, none⟩ (.int .i64 X1.C)).setCell ⟨gv, 2, none⟩ (.slice cA cq cc)).setCell ⟨gv, 3, none⟩ (.int .u64 X1.R)).setCell ⟨gv, 4, none⟩ (.slice cB X1.n cb)).setCell ⟨gv, 5, none⟩ (.slice cC X1.n cd)) _ _ at hdV_
        have hsz_ : ((((((w13.setCell ⟨gv, 0, none⟩ (.int .i64 X1.T)).setCell ⟨gv, 1, none⟩ (.int .i64 X1.C)).setCell ⟨gv, 2, none⟩ (.slice cA cq cc)).setCell ⟨gv, 3, none⟩ (.int .u64 X1.R)).setCell ⟨gv, 4, none⟩ (.slice cB X1.n cb)).setCell ⟨gv, 5, none⟩ (.slice cC X1.n cd)).heap.size = w13.heap.size := by simp [World.setCell]
        have hown_ := hown.kept (w' := ((((((w13.setCell ⟨gv, 0, none⟩ (.int .i64 X1.T)).setCell ⟨gv, 1, none⟩ (.int .i64 X1.C)).setCell ⟨gv, 2, none⟩ (.slice cA cq cc)).setCell ⟨gv, 3, none⟩ (.int .u64 X1.R)).setCell ⟨gv, 4, none⟩ (.slice cB X1.n cb)).setCell ⟨gv, 5, none⟩ (.slice cC X1.n cd))) (fun g o hb hv ho => (hk_ g (by omega)).trans ho)
        have hgr_ : gs ≤ ((((((w13.setCell ⟨gv, 0, none⟩ (.int .i64 X1.T)).setCell ⟨gv, 1, none⟩ (.int .i64 X1.C)).setCell ⟨gv, 2, none⟩ (.slice cA cq cc)).setCell ⟨gv, 3, none⟩ (.int .u64 X1.R)).setCell ⟨gv, 4, none⟩ (.slice cB X1.n cb)).setCell ⟨gv, 5, none⟩ (.slice cC X1.n cd)).heap.size := by rw [hsz_]; exact hgr
        clear hk_ hsz_ hown hgr hoc hou hop hb0 hVc hWr hbc hbV hd0 hdV f0 f1 f2 f3 f4 f5 e0 e1 e2 e3 e4 e5 ef0 ef1 ef2 ef3 ef4 ef5
        generalize ((((((w13.setCell ⟨gv, 0, none⟩ (.int .i64 X1.T)).setCell ⟨gv, 1, none⟩ (.int .i64 X1.C)).setCell ⟨gv, 2, none⟩ (.slice cA cq cc)).setCell ⟨gv, 3, none⟩ (.int .u64 X1.R)).setCell ⟨gv, 4, none⟩ (.slice cB X1.n cb)).setCell ⟨gv, 5, none⟩ (.slice cC X1.n cd)) = wg at *
        go_roundw
        case rel => exact ⟨j + 1, X1, S1, held, by go_num, by omega, ⟨_, hd0_, hdV_⟩, ⟨_, hb0_, hVc_⟩, hp1, hk1, hhe1, hse1, hown_, hWs_, hgr_⟩
        case measure => simp [intOf]; omega
      · skip
        have o0 : W10.cell? ⟨gk + 1, 0, none⟩ = some (.int .i64 6) := by simp [World.cell?, hop]
        have o1 : W10.cell? ⟨gk + 1, 1, none⟩ = some (.int .i64 0) := by simp [World.cell?, hop]
        have o2 : W10.cell? ⟨gk + 1, 2, none⟩ = some (.int .i64 0) := by simp [World.cell?, hop]
        have o3 : W10.cell? ⟨gk + 1, 3, none⟩ = some (.int .u64 0) := by simp [World.cell?, hop]
        have hrn : ¬ r ≤ 0 := by omega
        have hWn : Ext W10 (W10.alloc (.cells #[.int .i64 r] 3)) := (Below.refl _ W10).alloc (Nat.le_refl _) _
        have hcn : ∀ (i : Nat) (u : Value), (intCells [r])[i]? = some u → (W10.alloc (.cells #[.int .i64 r] 3)).cell? ((⟨W10.heap.size, 0, none⟩ : Addr).add i) = some u := heap_cells (heap_alloc_new W10 _)
        have hown2 := hown.ext hWn
        have u0 : W10.cell? ⟨gu, 0, none⟩ = some (.int .i64 0) := by simp [World.cell?, hou]
        have u1 : W10.cell? ⟨gu, 1, none⟩ = some (.bool false) := by simp [World.cell?, hou]
        have u2 : W10.cell? ⟨gu, 2, none⟩ = some (.int .i64 r) := by simp [World.cell?, hou]
        have u3 : W10.cell? ⟨gu, 3, none⟩ = some (.int .u64 0) := by simp [World.cell?, hou]
        have u4 : W10.cell? ⟨gu, 4, none⟩ = some (.slice none 0 0) := by simp [World.cell?, hou]
        go_upto_region 34 with (at_builtin; go_loud (refine wpList_append_int rfl (.tmp 88) (.tmp 91) _ rfl gs i0 Try.underlying35 hi0 hz0 hz1 hz2 _ held.length held rfl hown2 ⟨W10.heap.size, 0, none⟩ 1 1 [r] rfl (by intro _; omega) rfl hcn (by omega) (Nat.le_trans hgr hWn.size) ?_); intro v2 w11 hown5 hg5 hob5)
        have hWr5 := grownI_ext hown2 hg5 (hWr.trans hWn) hls2
        have hb5 := grownI_heap hown2 hg5 (hown2.low hs2) (heap_ext hb0 hWn)
        have hop5 := grownI_heap hown2 hg5 (hown2.ne_box (heap_ext hop hWn) (by decide)) (heap_ext hop hWn)
        have hou5 := grownI_heap hown2 hg5 (hown2.ne_box (heap_ext hou hWn) (by decide)) (heap_ext hou hWn)
        have hV5 := WldV.grownI hown2 hg5 (hbV.ext hWn) hkj.2.2
        obtain ⟨hDp, hDm⟩ : (∀ g o, (g = gP ∨ g = gM) → W10.heap[g]? = some o → True) ∧ True := ⟨fun _ _ _ _ => trivial, trivial⟩
        obtain ⟨dA, dq, dc, dB, db, dC, dd, hd0, hdV⟩ := hD.wld
        have hd5 := grownI_heap hown2 hg5 (hown2.low hs1) (heap_ext hd0 hWn)
        have hdV5 := WldV.grownI hown2 hg5 (hdV.ext hWn) hk1.2.2
        have hgr5 : gs ≤ w11.heap.size := Nat.le_trans hgr (Nat.le_trans hWn.size hg5.size)
        have hgu5 : gu < w11.heap.size := Nat.lt_of_lt_of_le hgu2 (Nat.le_trans hWn.size hg5.size)
        have hown6 : IntOwn w11 gs v2 (held ++ [r]).length (held ++ [r]) := by simpa using hown5
        clear hown2 hg5 hob5 hcn hWn hown hown5 hb0 hbV hgr hWr hop hou hD hd0 hdV hDp hDm hgu2 o0 o1 o2 o3 u0 u1 u2 u3 u4
        have hb0 := hb5
        have hbV := hV5
        have hop := hop5
        have hou := hou5
        have hWr := hWr5
        have hgr := hgr5
        have hown := hown6
        have hgu2 := hgu5
        have hd0 := hd5
        have hdV := hdV5
        clear hb5 hV5 hop5 hou5 hWr5 hgr5 hown6 hgu5 hd5 hdV5
        have o0 : w11.cell? ⟨gk + 1, 0, none⟩ = some (.int .i64 6) := by simp [World.cell?, hop]
        have o1 : w11.cell? ⟨gk + 1, 1, none⟩ = some (.int .i64 0) := by simp [World.cell?, hop]
        have o2 : w11.cell? ⟨gk + 1, 2, none⟩ = some (.int .i64 0) := by simp [World.cell?, hop]
        have o3 : w11.cell? ⟨gk + 1, 3, none⟩ = some (.int .u64 0) := by simp [World.cell?, hop]
        have e0 : w11.cell? ⟨gv, 0, none⟩ = some (.int .i64 Xj.T) := by simp [World.cell?, hb0]
        have e1 : w11.cell? ⟨gv, 1, none⟩ = some (.int .i64 Xj.C) := by simp [World.cell?, hb0]
        have e2 : w11.cell? ⟨gv, 2, none⟩ = some (.slice bA bq bc) := by simp [World.cell?, hb0]
        have e3 : w11.cell? ⟨gv, 3, none⟩ = some (.int .u64 Xj.R) := by simp [World.cell?, hb0]
        have e4 : w11.cell? ⟨gv, 4, none⟩ = some (.slice bB Xj.n bb) := by simp [World.cell?, hb0]
        have e5 : w11.cell? ⟨gv, 5, none⟩ = some (.slice bC Xj.n bd) := by simp [World.cell?, hb0]
        go_wp2_with fail
        refine (hcon _ _ _ _ hbV).mono ?_
        clear hcon
        rintro e w12 ⟨v_, rfl, hVc, hx_⟩
        obtain ⟨cA, cq, cc, cB, cb, cC, cd, rfl⟩ := hVc.form6
        replace hgr := Nat.le_trans hgr hx_.size
        replace hgu2 := Nat.lt_of_lt_of_le hgu2 hx_.size
        clear o0 o1 o2 o3 e0 e1 e2 e3 e4 e5
        replace hb0 := heap_ext hb0 hx_
        replace hop := heap_ext hop hx_
        replace hou := heap_ext hou hx_
        replace hd0 := heap_ext hd0 hx_
        replace hbV := hbV.ext hx_
        replace hown := hown.ext hx_
        replace hdV := hdV.ext hx_
        replace hWr := hWr.trans hx_
        clear hx_
        go_upto_region 35 with (fail)
        obtain ⟨hx_, hbc, hoc⟩ := two_boxes7 w12 (.cells #[.int .i64 X1.T, .int .i64 X1.C, .slice cA cq cc, .int .u64 X1.R, .slice cB X1.n cb, .slice cC X1.n cd] 51) (.cells #[.int .i64 0, .bool false, .int .i64 r, .int .u64 0, .slice none 0 0] 37)
        generalize (w12.alloc (.cells #[.int .i64 X1.T, .int .i64 X1.C, .slice cA cq cc, .int .u64 X1.R, .slice cB X1.n cb, .slice cC X1.n cd] 51)).alloc (.cells #[.int .i64 0, .bool false, .int .i64 r, .int .u64 0, .slice none 0 0] 37) = W12 at *
        have hgc := hgr
        have hguc := hgu2
        replace hgr := Nat.le_trans hgr hx_.size
        generalize w12.heap.size = gc at *
        replace hb0 := heap_ext hb0 hx_
        replace hop := heap_ext hop hx_
        replace hou := heap_ext hou hx_
        replace hd0 := heap_ext hd0 hx_
        replace hbV := hbV.ext hx_
        replace hown := hown.ext hx_
        replace hdV := hdV.ext hx_
        replace hVc := hVc.ext hx_
        replace hWr := hWr.trans hx_
        clear hx_
        have r0 : W12.cell? ⟨gc + 1, 0, none⟩ = some (.int .i64 0) := by simp [World.cell?, hoc]
        have r1 : W12.cell? ⟨gc + 1, 1, none⟩ = some (.bool false) := by simp [World.cell?, hoc]
        have r2 : W12.cell? ⟨gc + 1, 2, none⟩ = some (.int .i64 r) := by simp [World.cell?, hoc]
        have r3 : W12.cell? ⟨gc + 1, 3, none⟩ = some (.int .u64 0) := by simp [World.cell?, hoc]
        have r4 : W12.cell? ⟨gc + 1, 4, none⟩ = some (.slice none 0 0) := by simp [World.cell?, hoc]
        have u0 : W12.cell? ⟨gu, 0, none⟩ = some (.int .i64 0) := by simp [World.cell?, hou]
        have u1 : W12.cell? ⟨gu, 1, none⟩ = some (.bool false) := by simp [World.cell?, hou]
        have u2 : W12.cell? ⟨gu, 2, none⟩ = some (.int .i64 r) := by simp [World.cell?, hou]
        have u3 : W12.cell? ⟨gu, 3, none⟩ = some (.int .u64 0) := by simp [World.cell?, hou]
        have u4 : W12.cell? ⟨gu, 4, none⟩ = some (.slice none 0 0) := by simp [World.cell?, hou]
        go_wp2_with fail
        refine (outs_lit _).mono ?_
        rintro e w13 ⟨rfl, hx_⟩
        replace hgr := Nat.le_trans hgr hx_.size
        clear r0 r1 r2 r3 r4 u0 u1 u2 u3 u4
        replace hb0 := heap_ext hb0 hx_
        replace hop := heap_ext hop hx_
        replace hou := heap_ext hou hx_
        replace hd0 := heap_ext hd0 hx_
        replace hbc := heap_ext hbc hx_
        replace hoc := heap_ext hoc hx_
        replace hbV := hbV.ext hx_
        replace hown := hown.ext hx_
        replace hdV := hdV.ext hx_
        replace hVc := hVc.ext hx_
        replace hWr := hWr.trans hx_
        clear hx_
        go_upto_region 37 with (fail)
        have nc : ¬ gv = gc := by omega
        have nc' : ¬ gc = gv := by omega
        have f0 : w13.cell? ⟨gc, 0, none⟩ = some (.int .i64 X1.T) := by simp [World.cell?, hbc]
        have f1 : w13.cell? ⟨gc, 1, none⟩ = some (.int .i64 X1.C) := by simp [World.cell?, hbc]
        have f2 : w13.cell? ⟨gc, 2, none⟩ = some (.slice cA cq cc) := by simp [World.cell?, hbc]
        have f3 : w13.cell? ⟨gc, 3, none⟩ = some (.int .u64 X1.R) := by simp [World.cell?, hbc]
        have f4 : w13.cell? ⟨gc, 4, none⟩ = some (.slice cB X1.n cb) := by simp [World.cell?, hbc]
        have f5 : w13.cell? ⟨gc, 5, none⟩ = some (.slice cC X1.n cd) := by simp [World.cell?, hbc]
        have e0 : w13.cell? ⟨gv, 0, none⟩ = some (.int .i64 Xj.T) := by simp [World.cell?, hb0]
        have ef0 : w13.frozen? ⟨gv, 0, none⟩ = false := by simp [World.frozen?, hb0]
        have e1 : w13.cell? ⟨gv, 1, none⟩ = some (.int .i64 Xj.C) := by simp [World.cell?, hb0]
        have ef1 : w13.frozen? ⟨gv, 1, none⟩ = false := by simp [World.frozen?, hb0]
        have e2 : w13.cell? ⟨gv, 2, none⟩ = some (.slice bA bq bc) := by simp [World.cell?, hb0]
        have ef2 : w13.frozen? ⟨gv, 2, none⟩ = false := by simp [World.frozen?, hb0]
        have e3 : w13.cell? ⟨gv, 3, none⟩ = some (.int .u64 Xj.R) := by simp [World.cell?, hb0]
        have ef3 : w13.frozen? ⟨gv, 3, none⟩ = false := by simp [World.frozen?, hb0]
        have e4 : w13.cell? ⟨gv, 4, none⟩ = some (.slice bB Xj.n bb) := by simp [World.cell?, hb0]
        have ef4 : w13.frozen? ⟨gv, 4, none⟩ = false := by simp [World.frozen?, hb0]
        have e5 : w13.cell? ⟨gv, 5, none⟩ = some (.slice bC Xj.n bd) := by simp [World.cell?, hb0]
        have ef5 : w13.frozen? ⟨gv, 5, none⟩ = false := by simp [World.frozen?, hb0]
        go_wp2
        have hb0_ : ((((((w13.setCell ⟨gv, 0, none⟩ (.int .i64 X1.T)).setCell ⟨gv, 1, none⟩ (.int .i64 X1.C)).setCell ⟨gv, 2, none⟩ (.slice cA cq cc)).setCell ⟨gv, 3, none⟩ (.int .u64 X1.R)).setCell ⟨gv, 4, none⟩ (.slice cB X1.n cb)).setCell ⟨gv, 5, none⟩ (.slice cC X1.n cd)).heap[gv]? = some (.cells #[.int .i64 X1.T, .int .i64 X1.C, .slice cA cq cc, .int .u64 X1.R, .slice cB X1.n cb, .slice cC X1.n cd] 51 (0, 0)) := setAll_all (vs := [.int .i64 X1.T, .int .i64 X1.C, .slice cA cq cc, .int .u64 X1.R, .slice cB X1.n cb, .slice cC X1.n cd]) hb0 rfl
        have hWs_ : Ext w ((((((w13.setCell ⟨gv, 0, none⟩ (.int .i64 X1.T)).setCell ⟨gv, 1, none⟩ (.int .i64 X1.C)).setCell ⟨gv, 2, none⟩ (.slice cA cq cc)).setCell ⟨gv, 3, none⟩ (.int .u64 X1.R)).setCell ⟨gv, 4, none⟩ (.slice cB X1.n cb)).setCell ⟨gv, 5, none⟩ (.slice cC X1.n cd)) := setAll_ext (g := gv) (vs := [.int .i64 X1.T, .int .i64 X1.C, .slice cA cq cc, .int .u64 X1.R, .slice cB X1.n cb, .slice cC X1.n cd]) (i := 0) hWr hlsv
        have hk_ : ∀ g, g ≠ gv → ((((((w13.setCell ⟨gv, 0, none⟩ (.int .i64 X1.T)).setCell ⟨gv, 1, none⟩ (.int .i64 X1.C)).setCell ⟨gv, 2, none⟩ (.slice cA cq cc)).setCell ⟨gv, 3, none⟩ (.int .u64 X1.R)).setCell ⟨gv, 4, none⟩ (.slice cB X1.n cb)).setCell ⟨gv, 5, none⟩ (.slice cC X1.n cd)).heap[g]? = w13.heap[g]? := fun g hg => setAll_other (g := gv) (k := g) hg [.int .i64 X1.T, .int .i64 X1.C, .slice cA cq cc, .int .u64 X1.R, .slice cB X1.n cb, .slice cC X1.n cd] 0 w13
        have hd0_ := (hk_ ga (Ne.symm hng)).trans hd0
        have hVc_ := hVc.but hk1.2.2 (But.all gv [.int .i64 X1.T, .int .i64 X1.C, .slice cA cq cc, .int .u64 X1.R, .slice cB X1.n cb, .slice cC X1.n cd] 0 w13) hb0 rfl
        change WldV ((((((w13.setCell ⟨gv, 0, none⟩ (.int .i64 X1.T)).setCell ⟨gv, 1, none⟩ (.int .i64 X1.C)).setCell ⟨gv, 2, none⟩ (.slice cA cq cc)).setCell ⟨gv, 3, none⟩ (.int .u64 X1.R)).setCell ⟨gv, 4, none⟩ (.slice cB X1.n cb)).setCell ⟨gv, 5, none⟩ (.slice cC X1.n cd)) _ _ at hVc_
        have hdV_ := hdV.but hk1.2.2 (But.all gv [.int .i64 X1.T, .int .i64 X1.C, .slice cA cq cc, .int .u64 X1.R, .slice cB X1.n cb, .slice cC X1.n cd] 0 w13) hb0 rfl
        change WldV ((((((w13.setCell ⟨gv, 0, none⟩ (.int .i64 X1.T)).setCell ⟨gv, 1, none⟩ (.int .i64 X1.C)).setCell ⟨gv, 2, none⟩ (.slice cA cq cc)).setCell ⟨gv, 3, none⟩ (.int .u64 X1.R)).setCell ⟨gv, 4, none⟩ (.slice cB X1.n cb)).setCell ⟨gv, 5, none⟩ (.slice cC X1.n cd)) _ _ at hdV_
        have hsz_ : ((((((w13.setCell ⟨gv, 0, none⟩ (.int .i64 X1.T)).setCell ⟨gv, 1, none⟩ (.int .i64 X1.C)).setCell ⟨gv, 2, none⟩ (.slice cA cq cc)).setCell ⟨gv, 3, none⟩ (.int .u64 X1.R)).setCell ⟨gv, 4, none⟩ (.slice cB X1.n cb)).setCell ⟨gv, 5, none⟩ (.slice cC X1.n cd)).heap.size = w13.heap.size := by simp [World.setCell]
        have hown_ := hown.kept (w' := ((((((w13.setCell ⟨gv, 0, none⟩ (.int .i64 X1.T)).setCell ⟨gv, 1, none⟩ (.int .i64 X1.C)).setCell ⟨gv, 2, none⟩ (.slice cA cq cc)).setCell ⟨gv, 3, none⟩ (.int .u64 X1.R)).setCell ⟨gv, 4, none⟩ (.slice cB X1.n cb)).setCell ⟨gv, 5, none⟩ (.slice cC X1.n cd))) (fun g o hb hv ho => (hk_ g (by omega)).trans ho)
        have hgr_ : gs ≤ ((((((w13.setCell ⟨gv, 0, none⟩ (.int .i64 X1.T)).setCell ⟨gv, 1, none⟩ (.int .i64 X1.C)).setCell ⟨gv, 2, none⟩ (.slice cA cq cc)).setCell ⟨gv, 3, none⟩ (.int .u64 X1.R)).setCell ⟨gv, 4, none⟩ (.slice cB X1.n cb)).setCell ⟨gv, 5, none⟩ (.slice cC X1.n cd)).heap.size := by rw [hsz_]; exact hgr
        clear hk_ hsz_ hown hgr hoc hou hop hb0 hVc hWr hbc hbV hd0 hdV f0 f1 f2 f3 f4 f5 e0 e1 e2 e3 e4 e5 ef0 ef1 ef2 ef3 ef4 ef5
        generalize ((((((w13.setCell ⟨gv, 0, none⟩ (.int .i64 X1.T)).setCell ⟨gv, 1, none⟩ (.int .i64 X1.C)).setCell ⟨gv, 2, none⟩ (.slice cA cq cc)).setCell ⟨gv, 3, none⟩ (.int .u64 X1.R)).setCell ⟨gv, 4, none⟩ (.slice cB X1.n cb)).setCell ⟨gv, 5, none⟩ (.slice cC X1.n cd)) = wg at *
        go_roundw
        case rel => exact ⟨j + 1, X1, S1, held ++ [r], by go_num, by omega, ⟨_, hd0_, hdV_⟩, ⟨_, hb0_, hVc_⟩, hp1, hk1, hhe1, hse1, hown_, hWs_, hgr_⟩
        case measure => simp [intOf]; omega
    · have hz6 : Int.tmod (z : Int) 6 = 3 := by rw [Int.tmod_eq_emod_of_nonneg (by omega)]; omega
      have hz6u : IntKind.u8.wrap 3 = 3 := by rfl
      have hxk : Ext w5 (w5.alloc (.cells #[.int .i64 3, .int .i64 4, .int .i64 6, .int .i64 6, .int .i64 5, .int .i64 19] 3)) := (Below.refl _ w5).alloc (Nat.le_refl _) _
      have hczk := hxk.cell hcz
      have hkk := heap_alloc_new w5 (.cells #[.int .i64 3, .int .i64 4, .int .i64 6, .int .i64 6, .int .i64 5, .int .i64 19] 3)
      have hkc : (w5.alloc (.cells #[.int .i64 3, .int .i64 4, .int .i64 6, .int .i64 6, .int .i64 5, .int .i64 19] 3)).cell? ⟨w5.heap.size, 3, none⟩ = some (.int .i64 6) := by unfold World.cell?; rw [hkk]; rfl
      clear hxk hkk
      go_upto_region 14 with (fail)
      obtain ⟨hx_, hks, hop⟩ := two_boxes7 w5 (.cells #[.int .i64 3, .int .i64 4, .int .i64 6, .int .i64 6, .int .i64 5, .int .i64 19] 3) (.cells #[.int .i64 6, .int .i64 0, .int .i64 0, .int .u64 0] 24)
      generalize (w5.alloc (.cells #[.int .i64 3, .int .i64 4, .int .i64 6, .int .i64 6, .int .i64 5, .int .i64 19] 3)).alloc (.cells #[.int .i64 6, .int .i64 0, .int .i64 0, .int .u64 0] 24) = W6 at *
      have hgk := hgr
      replace hgr := Nat.le_trans hgr hx_.size
      have hlk : gP < w5.heap.size ∧ gM < w5.heap.size := ⟨hP2, hM2⟩
      generalize w5.heap.size = gk at *
      replace hb0 := heap_ext hb0 hx_
      replace hbV := hbV.ext hx_
      replace hown := hown.ext hx_
      replace hD := hD.ext hx_
      replace hWr := hWr.trans hx_
      clear hx_
      clear hks hcz hczk hkc hz6 hz6u hP1 hM1 hP2 hM2
      have o0 : W6.cell? ⟨gk + 1, 0, none⟩ = some (.int .i64 6) := by simp [World.cell?, hop]
      have o1 : W6.cell? ⟨gk + 1, 1, none⟩ = some (.int .i64 0) := by simp [World.cell?, hop]
      have o2 : W6.cell? ⟨gk + 1, 2, none⟩ = some (.int .i64 0) := by simp [World.cell?, hop]
      have o3 : W6.cell? ⟨gk + 1, 3, none⟩ = some (.int .u64 0) := by simp [World.cell?, hop]
      go_upto_region 17 with (fail)
      have hx_ : Ext W6 (W6.alloc (.cells #[.int .i64 0, .bool false, .int .i64 0, .int .u64 0, .slice none 0 0] 37)) := (Below.refl _ W6).alloc (Nat.le_refl _) _
      have hou := heap_alloc_new W6 (.cells #[.int .i64 0, .bool false, .int .i64 0, .int .u64 0, .slice none 0 0] 37)
      generalize W6.alloc (.cells #[.int .i64 0, .bool false, .int .i64 0, .int .u64 0, .slice none 0 0] 37) = W7 at *
      have hgu : gk + 1 < W6.heap.size := (Array.getElem?_eq_some_iff.1 hop).1
      replace hgr := Nat.le_trans hgr hx_.size
      generalize W6.heap.size = gu at *
      clear o0 o1 o2 o3
      replace hb0 := heap_ext hb0 hx_
      replace hop := heap_ext hop hx_
      replace hbV := hbV.ext hx_
      replace hown := hown.ext hx_
      replace hD := hD.ext hx_
      replace hWr := hWr.trans hx_
      clear hx_
      have hgu2 : gu < W7.heap.size := (Array.getElem?_eq_some_iff.1 hou).1
      have o0 : W7.cell? ⟨gk + 1, 0, none⟩ = some (.int .i64 6) := by simp [World.cell?, hop]
      have o1 : W7.cell? ⟨gk + 1, 1, none⟩ = some (.int .i64 0) := by simp [World.cell?, hop]
      have o2 : W7.cell? ⟨gk + 1, 2, none⟩ = some (.int .i64 0) := by simp [World.cell?, hop]
      have o3 : W7.cell? ⟨gk + 1, 3, none⟩ = some (.int .u64 0) := by simp [World.cell?, hop]
      have u0 : W7.cell? ⟨gu, 0, none⟩ = some (.int .i64 0) := by simp [World.cell?, hou]
      have uf0 : W7.frozen? ⟨gu, 0, none⟩ = false := by simp [World.frozen?, hou]
      have u1 : W7.cell? ⟨gu, 1, none⟩ = some (.bool false) := by simp [World.cell?, hou]
      have uf1 : W7.frozen? ⟨gu, 1, none⟩ = false := by simp [World.frozen?, hou]
      have u2 : W7.cell? ⟨gu, 2, none⟩ = some (.int .i64 0) := by simp [World.cell?, hou]
      have uf2 : W7.frozen? ⟨gu, 2, none⟩ = false := by simp [World.frozen?, hou]
      have u3 : W7.cell? ⟨gu, 3, none⟩ = some (.int .u64 0) := by simp [World.cell?, hou]
      have uf3 : W7.frozen? ⟨gu, 3, none⟩ = false := by simp [World.frozen?, hou]
      have u4 : W7.cell? ⟨gu, 4, none⟩ = some (.slice none 0 0) := by simp [World.cell?, hou]
      have uf4 : W7.frozen? ⟨gu, 4, none⟩ = false := by simp [World.frozen?, hou]
      obtain ⟨X1, hp1, hk1, hcon, hdc⟩ := both_alloc hpj hkj hme (most := 300) (by omega) (by omega) (by omega)
      have hal := alloc_perm (t := 2) (me := me) (fun x hx => (hpj.rng x hx).1)
      have hae := alloc_e3 S 2 me
      generalize S.alloc 2 me = q at *
      obtain ⟨S1, r⟩ := q
      obtain ⟨ha1, ha2⟩ := hal
      replace ha1 : r = 0 → S1.all.Perm S.all := ha1
      replace ha2 : r ≠ 0 → S.all.Perm (r :: S1.all) := ha2
      replace hae : S1.e ≤ S.e + 3 := hae
      replace hp1 : EpK X1 2 N S1 := hp1
      have hse1 : S1.e ≤ 3 * (j + 1) := by omega
      have hfin : (r = 0 ∧ HE N S1 held) ∨ (0 < r ∧ held.length < N ∧ HE N S1 (held ++ [r])) := by
        by_cases hr : r = 0
        · exact .inl ⟨hr, hhe.perm (ha1 hr)⟩
        · have ht := hhe.take (ha2 hr)
          have hl := (ha2 hr).length_eq
          simp at hl
          have := ht.rng r (by simp)
          exact .inr ⟨by omega, by omega, ht⟩
      clear ha1 ha2 hae
      replace hcon : AloneC 2 me 300 6 0 ⟨0, false, r, 0⟩ Xj X1 := hcon
      simp only [AloneC] at hcon
      rw [show (((300 : Nat) : Int)) = 300 from rfl] at hcon
      simp only [dirV13] at hdc
      try rw [show (((2 : Nat) : Int)) = 2 from rfl] at hdc
      clear hhe hpj hse
      go_wp2_with fail
      refine (hdc _ _ _ _ hD).mono ?_
      rintro e w9 ⟨rfl, hD9, hx_⟩
      obtain ⟨dA, dq, dc, dB, db, dC, dd, hd0, -⟩ := hD.wld
      have hb09 := hx_.heap hb0 hng
      have hop9 := hx_.heap hop (by omega)
      have hou9 := hx_.heap hou (by omega)
      have hbV9 := hbV.extB hx_ hd0 rfl hkj.2.2
      have hown9 := hown.kept (fun g o hb hv ho => hx_.heap ho (by omega))
      have hWr9 := hx_.ext hWr hls
      have hgr9 := Nat.le_trans hgr hx_.size
      have hgu9 := Nat.lt_of_lt_of_le hgu2 hx_.size
      clear hd0 hb0 hbV hown hWr hgr hD hx_ hdc hop hou hgu2 o0 o1 o2 o3 u0 u1 u2 u3 u4 uf0 uf1 uf2 uf3 uf4
      have hb0 := hb09
      have hbV := hbV9
      have hown := hown9
      have hWr := hWr9
      have hgr := hgr9
      have hD := hD9
      have hop := hop9
      have hou := hou9
      have hgu2 := hgu9
      clear hb09 hbV9 hown9 hWr9 hgr9 hD9 hop9 hou9 hgu9
      have u0 : w9.cell? ⟨gu, 0, none⟩ = some (.int .i64 0) := by simp [World.cell?, hou]
      have uf0 : w9.frozen? ⟨gu, 0, none⟩ = false := by simp [World.frozen?, hou]
      have u1 : w9.cell? ⟨gu, 1, none⟩ = some (.bool false) := by simp [World.cell?, hou]
      have uf1 : w9.frozen? ⟨gu, 1, none⟩ = false := by simp [World.frozen?, hou]
      have u2 : w9.cell? ⟨gu, 2, none⟩ = some (.int .i64 0) := by simp [World.cell?, hou]
      have uf2 : w9.frozen? ⟨gu, 2, none⟩ = false := by simp [World.frozen?, hou]
      have u3 : w9.cell? ⟨gu, 3, none⟩ = some (.int .u64 0) := by simp [World.cell?, hou]
      have uf3 : w9.frozen? ⟨gu, 3, none⟩ = false := by simp [World.frozen?, hou]
      have u4 : w9.cell? ⟨gu, 4, none⟩ = some (.slice none 0 0) := by simp [World.cell?, hou]
      have uf4 : w9.frozen? ⟨gu, 4, none⟩ = false := by simp [World.frozen?, hou]
      go_upto_region 24 with (fail)
      obtain ⟨hou2, hbut, hsz_⟩ := set_box (i := 2) (v := .int .i64 r) hou (by decide)
      have hWr2 : Ext w (w9.setCell ⟨gu, 2, none⟩ (.int .i64 r)) := set_ext hWr (by omega)
      have hb02 := hbut _ _ (by omega) hb0
      have hop2 := hbut _ _ (by omega) hop
      have hbV2 := hbV.but hkj.2.2 hbut hou rfl
      have hD2 := hD.but hbut hou rfl hk1.2.2 (by omega) (by omega) (by omega)
      have hown2 : IntOwn (w9.setCell ⟨gu, 2, none⟩ (.int .i64 r)) gs _ held.length held := hown.kept (fun g o hb hv ho => hbut _ _ (fun e => hown.ne_box hou (by decide) (by rw [← hv, e])) ho)
      replace hgr : gs ≤ (w9.setCell ⟨gu, 2, none⟩ (.int .i64 r)).heap.size := by rw [hsz_]; exact hgr
      replace hgu2 : gu < (w9.setCell ⟨gu, 2, none⟩ (.int .i64 r)).heap.size := by rw [hsz_]; exact hgu2
      clear hop hb0 hou hbV hD hown hWr hbut hsz_ u0 u1 u2 u3 u4 uf0 uf1 uf2 uf3 uf4
      generalize (w9.setCell ⟨gu, 2, none⟩ (.int .i64 r)) = W10 at *
      have hop := hop2
      have hb0 := hb02
      have hou := hou2
      have hbV := hbV2
      have hD := hD2
      have hown := hown2
      have hWr := hWr2
      clear hop2 hb02 hou2 hbV2 hD2 hown2 hWr2
      rcases hfin with ⟨rfl, hhe1⟩ | ⟨hrp, hlN, hhe1⟩
      · skip
        have o0 : W10.cell? ⟨gk + 1, 0, none⟩ = some (.int .i64 6) := by simp [World.cell?, hop]
        have o1 : W10.cell? ⟨gk + 1, 1, none⟩ = some (.int .i64 0) := by simp [World.cell?, hop]
        have o2 : W10.cell? ⟨gk + 1, 2, none⟩ = some (.int .i64 0) := by simp [World.cell?, hop]
        have o3 : W10.cell? ⟨gk + 1, 3, none⟩ = some (.int .u64 0) := by simp [World.cell?, hop]
        have u0 : W10.cell? ⟨gu, 0, none⟩ = some (.int .i64 0) := by simp [World.cell?, hou]
        have u1 : W10.cell? ⟨gu, 1, none⟩ = some (.bool false) := by simp [World.cell?, hou]
        have u2 : W10.cell? ⟨gu, 2, none⟩ = some (.int .i64 0) := by simp [World.cell?, hou]
        have u3 : W10.cell? ⟨gu, 3, none⟩ = some (.int .u64 0) := by simp [World.cell?, hou]
        have u4 : W10.cell? ⟨gu, 4, none⟩ = some (.slice none 0 0) := by simp [World.cell?, hou]
        obtain ⟨dA, dq, dc, dB, db, dC, dd, hd0, hdV⟩ := hD.wld
        clear hD
        have e0 : W10.cell? ⟨gv, 0, none⟩ = some (.int .i64 Xj.T) := by simp [World.cell?, hb0]
        have e1 : W10.cell? ⟨gv, 1, none⟩ = some (.int .i64 Xj.C) := by simp [World.cell?, hb0]
        have e2 : W10.cell? ⟨gv, 2, none⟩ = some (.slice bA bq bc) := by simp [World.cell?, hb0]
        have e3 : W10.cell? ⟨gv, 3, none⟩ = some (.int .u64 Xj.R) := by simp [World.cell?, hb0]
        have e4 : W10.cell? ⟨gv, 4, none⟩ = some (.slice bB Xj.n bb) := by simp [World.cell?, hb0]
        have e5 : W10.cell? ⟨gv, 5, none⟩ = some (.slice bC Xj.n bd) := by simp [World.cell?, hb0]
        go_wp2_with fail
        refine (hcon _ _ _ _ hbV).mono ?_
        clear hcon
        rintro e w12 ⟨v_, rfl, hVc, hx_⟩
        obtain ⟨cA, cq, cc, cB, cb, cC, cd, rfl⟩ := hVc.form6
        replace hgr := Nat.le_trans hgr hx_.size
        replace hgu2 := Nat.lt_of_lt_of_le hgu2 hx_.size
        clear o0 o1 o2 o3 u0 u1 u2 u3 u4 e0 e1 e2 e3 e4 e5
        replace hb0 := heap_ext hb0 hx_
        replace hop := heap_ext hop hx_
        replace hou := heap_ext hou hx_
        replace hd0 := heap_ext hd0 hx_
        replace hbV := hbV.ext hx_
        replace hown := hown.ext hx_
        replace hdV := hdV.ext hx_
        replace hWr := hWr.trans hx_
        clear hx_
        go_upto_region 35 with (fail)
        obtain ⟨hx_, hbc, hoc⟩ := two_boxes7 w12 (.cells #[.int .i64 X1.T, .int .i64 X1.C, .slice cA cq cc, .int .u64 X1.R, .slice cB X1.n cb, .slice cC X1.n cd] 51) (.cells #[.int .i64 0, .bool false, .int .i64 0, .int .u64 0, .slice none 0 0] 37)
        generalize (w12.alloc (.cells #[.int .i64 X1.T, .int .i64 X1.C, .slice cA cq cc, .int .u64 X1.R, .slice cB X1.n cb, .slice cC X1.n cd] 51)).alloc (.cells #[.int .i64 0, .bool false, .int .i64 0, .int .u64 0, .slice none 0 0] 37) = W12 at *
        have hgc := hgr
        have hguc := hgu2
        replace hgr := Nat.le_trans hgr hx_.size
        generalize w12.heap.size = gc at *
        replace hb0 := heap_ext hb0 hx_
        replace hop := heap_ext hop hx_
        replace hou := heap_ext hou hx_
        replace hd0 := heap_ext hd0 hx_
        replace hbV := hbV.ext hx_
        replace hown := hown.ext hx_
        replace hdV := hdV.ext hx_
        replace hVc := hVc.ext hx_
        replace hWr := hWr.trans hx_
        clear hx_
        have r0 : W12.cell? ⟨gc + 1, 0, none⟩ = some (.int .i64 0) := by simp [World.cell?, hoc]
        have r1 : W12.cell? ⟨gc + 1, 1, none⟩ = some (.bool false) := by simp [World.cell?, hoc]
        have r2 : W12.cell? ⟨gc + 1, 2, none⟩ = some (.int .i64 0) := by simp [World.cell?, hoc]
        have r3 : W12.cell? ⟨gc + 1, 3, none⟩ = some (.int .u64 0) := by simp [World.cell?, hoc]
        have r4 : W12.cell? ⟨gc + 1, 4, none⟩ = some (.slice none 0 0) := by simp [World.cell?, hoc]
        have u0 : W12.cell? ⟨gu, 0, none⟩ = some (.int .i64 0) := by simp [World.cell?, hou]
        have u1 : W12.cell? ⟨gu, 1, none⟩ = some (.bool false) := by simp [World.cell?, hou]
        have u2 : W12.cell? ⟨gu, 2, none⟩ = some (.int .i64 0) := by simp [World.cell?, hou]
        have u3 : W12.cell? ⟨gu, 3, none⟩ = some (.int .u64 0) := by simp [World.cell?, hou]
        have u4 : W12.cell? ⟨gu, 4, none⟩ = some (.slice none 0 0) := by simp [World.cell?, hou]
        go_wp2_with fail
        refine (outs_lit _).mono ?_
        rintro e w13 ⟨rfl, hx_⟩
        replace hgr := Nat.le_trans hgr hx_.size
        clear r0 r1 r2 r3 r4 u0 u1 u2 u3 u4
        replace hb0 := heap_ext hb0 hx_
        replace hop := heap_ext hop hx_
        replace hou := heap_ext hou hx_
        replace hd0 := heap_ext hd0 hx_
        replace hbc := heap_ext hbc hx_
        replace hoc := heap_ext hoc hx_
        replace hbV := hbV.ext hx_
        replace hown := hown.ext hx_
        replace hdV := hdV.ext hx_
        replace hVc := hVc.ext hx_
        replace hWr := hWr.trans hx_
        clear hx_
        go_upto_region 37 with (fail)
        have nc : ¬ gv = gc := by omega
        have nc' : ¬ gc = gv := by omega
        have f0 : w13.cell? ⟨gc, 0, none⟩ = some (.int .i64 X1.T) := by simp [World.cell?, hbc]
        have f1 : w13.cell? ⟨gc, 1, none⟩ = some (.int .i64 X1.C) := by simp [World.cell?, hbc]
        have f2 : w13.cell? ⟨gc, 2, none⟩ = some (.slice cA cq cc) := by simp [World.cell?, hbc]
        have f3 : w13.cell? ⟨gc, 3, none⟩ = some (.int .u64 X1.R) := by simp [World.cell?, hbc]
        have f4 : w13.cell? ⟨gc, 4, none⟩ = some (.slice cB X1.n cb) := by simp [World.cell?, hbc]
        have f5 : w13.cell? ⟨gc, 5, none⟩ = some (.slice cC X1.n cd) := by simp [World.cell?, hbc]
        have e0 : w13.cell? ⟨gv, 0, none⟩ = some (.int .i64 Xj.T) := by simp [World.cell?, hb0]
        have ef0 : w13.frozen? ⟨gv, 0, none⟩ = false := by simp [World.frozen?, hb0]
        have e1 : w13.cell? ⟨gv, 1, none⟩ = some (.int .i64 Xj.C) := by simp [World.cell?, hb0]
        have ef1 : w13.frozen? ⟨gv, 1, none⟩ = false := by simp [World.frozen?, hb0]
        have e2 : w13.cell? ⟨gv, 2, none⟩ = some (.slice bA bq bc) := by simp [World.cell?, hb0]
        have ef2 : w13.frozen? ⟨gv, 2, none⟩ = false := by simp [World.frozen?, hb0]
        have e3 : w13.cell? ⟨gv, 3, none⟩ = some (.int .u64 Xj.R) := by simp [World.cell?, hb0]
        have ef3 : w13.frozen? ⟨gv, 3, none⟩ = false := by simp [World.frozen?, hb0]
        have e4 : w13.cell? ⟨gv, 4, none⟩ = some (.slice bB Xj.n bb) := by simp [World.cell?, hb0]
        have ef4 : w13.frozen? ⟨gv, 4, none⟩ = false := by simp [World.frozen?, hb0]
        have e5 : w13.cell? ⟨gv, 5, none⟩ = some (.slice bC Xj.n bd) := by simp [World.cell?, hb0]
        have ef5 : w13.frozen? ⟨gv, 5, none⟩ = false := by simp [World.frozen?, hb0]
        go_wp2
        have hb0_ : ((((((w13.setCell ⟨gv, 0, none⟩ (.int .i64 X1.T)).setCell ⟨gv, 1, none⟩ (.int .i64 X1.C)).setCell ⟨gv, 2, none⟩ (.slice cA cq cc)).setCell ⟨gv, 3, none⟩ (.int .u64 X1.R)).setCell ⟨gv, 4, none⟩ (.slice cB X1.n cb)).setCell ⟨gv, 5, none⟩ (.slice cC X1.n cd)).heap[gv]? = some (.cells #[.int .i64 X1.T, .int .i64 X1.C, .slice cA cq cc, .int .u64 X1.R, .slice cB X1.n cb, .slice cC X1.n cd] 51 (0, 0)) := setAll_all (vs := [.int .i64 X1.T, .int .i64 X1.C, .slice cA cq cc, .int .u64 X1.R, .slice cB X1.n cb, .slice cC X1.n cd]) hb0 rfl
        have hWs_ : Ext w ((((((w13.setCell ⟨gv, 0, none⟩ (.int .i64 X1.T)).setCell ⟨gv, 1, none⟩ (.int .i64 X1.C)).setCell ⟨gv, 2, none⟩ (.slice cA cq cc)).setCell ⟨gv, 3, none⟩ (.int .u64 X1.R)).setCell ⟨gv, 4, none⟩ (.slice cB X1.n cb)).setCell ⟨gv, 5, none⟩ (.slice cC X1.n cd)) := setAll_ext (g := gv) (vs := [.int .i64 X1.T, .int .i64 X1.C, .slice cA cq cc, .int .u64 X1.R, .slice cB X1.n cb, .slice cC X1.n cd]) (i := 0) hWr hlsv
        have hk_ : ∀ g, g ≠ gv → ((((((w13.setCell ⟨gv, 0, none⟩ (.int .i64 X1.T)).setCell ⟨gv, 1, none⟩ (.int .i64 X1.C)).setCell ⟨gv, 2, none⟩ (.slice cA cq cc)).setCell ⟨gv, 3, none⟩ (.int .u64 X1.R)).setCell ⟨gv, 4, none⟩ (.slice cB X1.n cb)).setCell ⟨gv, 5, none⟩ (.slice cC X1.n cd)).heap[g]? = w13.heap[g]? := fun g hg => setAll_other (g := gv) (k := g) hg [.int .i64 X1.T, .int .i64 X1.C, .slice cA cq cc, .int .u64 X1.R, .slice cB X1.n cb, .slice cC X1.n cd] 0 w13
        have hd0_ := (hk_ ga (Ne.symm hng)).trans hd0
        have hVc_ := hVc.but hk1.2.2 (But.all gv [.int .i64 X1.T, .int .i64 X1.C, .slice cA cq cc, .int .u64 X1.R, .slice cB X1.n cb, .slice cC X1.n cd] 0 w13) hb0 rfl
        change WldV ((((((w13.setCell ⟨gv, 0, none⟩ (.int .i64 X1.T)).setCell ⟨gv, 1, none⟩ (.int .i64 X1.C)).setCell ⟨gv, 2, none⟩ (.slice cA cq cc)).setCell ⟨gv, 3, none⟩ (.int .u64 X1.R)).setCell ⟨gv, 4, none⟩ (.slice cB X1.n cb)).setCell ⟨gv, 5, none⟩ (.slice cC X1.n cd)) _ _ at hVc_
        have hdV_ := hdV.but hk1.2.2 (But.all gv [.int .i64 X1.T, .int .i64 X1.C, .slice cA cq cc, .int .u64 X1.R, .slice cB X1.n cb, .slice cC X1.n cd] 0 w13) hb0 rfl
        change WldV ((((((w13.setCell ⟨gv, 0, none⟩ (.int .i64 X1.T)).setCell ⟨gv, 1, none⟩ (.int .i64 X1.C)).setCell ⟨gv, 2, none⟩ (.slice cA cq cc)).setCell ⟨gv, 3, none⟩ (.int .u64 X1.R)).setCell ⟨gv, 4, none⟩ (.slice cB X1.n cb)).setCell ⟨gv, 5, none⟩ (.slice cC X1.n cd)) _ _ at hdV_
        have hsz_ : ((((((w13.setCell ⟨gv, 0, none⟩ (.int .i64 X1.T)).setCell ⟨gv, 1, none⟩ (.int .i64 X1.C)).setCell ⟨gv, 2, none⟩ (.slice cA cq cc)).setCell ⟨gv, 3, none⟩ (.int .u64 X1.R)).setCell ⟨gv, 4, none⟩ (.slice cB X1.n cb)).setCell ⟨gv, 5, none⟩ (.slice cC X1.n cd)).heap.size = w13.heap.size := by simp [World.setCell]
        have hown_ := hown.kept (w' := ((((((w13.setCell ⟨gv, 0, none⟩ (.int .i64 X1.T)).setCell ⟨gv, 1, none⟩ (.int .i64 X1.C)).setCell ⟨gv, 2, none⟩ (.slice cA cq cc)).setCell ⟨gv, 3, none⟩ (.int .u64 X1.R)).setCell ⟨gv, 4, none⟩ (.slice cB X1.n cb)).setCell ⟨gv, 5, none⟩ (.slice cC X1.n cd))) (fun g o hb hv ho => (hk_ g (by omega)).trans ho)
        have hgr_ : gs ≤ ((((((w13.setCell ⟨gv, 0, none⟩ (.int .i64 X1.T)).setCell ⟨gv, 1, none⟩ (.int .i64 X1.C)).setCell ⟨gv, 2, none⟩ (.slice cA cq cc)).setCell ⟨gv, 3, none⟩ (.int .u64 X1.R)).setCell ⟨gv, 4, none⟩ (.slice cB X1.n cb)).setCell ⟨gv, 5, none⟩ (.slice cC X1.n cd)).heap.size := by rw [hsz_]; exact hgr
        clear hk_ hsz_ hown hgr hoc hou hop hb0 hVc hWr hbc hbV hd0 hdV f0 f1 f2 f3 f4 f5 e0 e1 e2 e3 e4 e5 ef0 ef1 ef2 ef3 ef4 ef5
        generalize ((((((w13.setCell ⟨gv, 0, none⟩ (.int .i64 X1.T)).setCell ⟨gv, 1, none⟩ (.int .i64 X1.C)).setCell ⟨gv, 2, none⟩ (.slice cA cq cc)).setCell ⟨gv, 3, none⟩ (.int .u64 X1.R)).setCell ⟨gv, 4, none⟩ (.slice cB X1.n cb)).setCell ⟨gv, 5, none⟩ (.slice cC X1.n cd)) = wg at *
        go_roundw
        case rel => exact ⟨j + 1, X1, S1, held, by go_num, by omega, ⟨_, hd0_, hdV_⟩, ⟨_, hb0_, hVc_⟩, hp1, hk1, hhe1, hse1, hown_, hWs_, hgr_⟩
        case measure => simp [intOf]; omega
      · skip
        have o0 : W10.cell? ⟨gk + 1, 0, none⟩ = some (.int .i64 6) := by simp [World.cell?, hop]
        have o1 : W10.cell? ⟨gk + 1, 1, none⟩ = some (.int .i64 0) := by simp [World.cell?, hop]
        have o2 : W10.cell? ⟨gk + 1, 2, none⟩ = some (.int .i64 0) := by simp [World.cell?, hop]
        have o3 : W10.cell? ⟨gk + 1, 3, none⟩ = some (.int .u64 0) := by simp [World.cell?, hop]
        have hrn : ¬ r ≤ 0 := by omega
        have hWn : Ext W10 (W10.alloc (.cells #[.int .i64 r] 3)) := (Below.refl _ W10).alloc (Nat.le_refl _) _
        have hcn : ∀ (i : Nat) (u : Value), (intCells [r])[i]? = some u → (W10.alloc (.cells #[.int .i64 r] 3)).cell? ((⟨W10.heap.size, 0, none⟩ : Addr).add i) = some u := heap_cells (heap_alloc_new W10 _)
        have hown2 := hown.ext hWn
        have u0 : W10.cell? ⟨gu, 0, none⟩ = some (.int .i64 0) := by simp [World.cell?, hou]
        have u1 : W10.cell? ⟨gu, 1, none⟩ = some (.bool false) := by simp [World.cell?, hou]
        have u2 : W10.cell? ⟨gu, 2, none⟩ = some (.int .i64 r) := by simp [World.cell?, hou]
        have u3 : W10.cell? ⟨gu, 3, none⟩ = some (.int .u64 0) := by simp [World.cell?, hou]
        have u4 : W10.cell? ⟨gu, 4, none⟩ = some (.slice none 0 0) := by simp [World.cell?, hou]
        go_upto_region 34 with (at_builtin; go_loud (refine wpList_append_int rfl (.tmp 88) (.tmp 91) _ rfl gs i0 Try.underlying35 hi0 hz0 hz1 hz2 _ held.length held rfl hown2 ⟨W10.heap.size, 0, none⟩ 1 1 [r] rfl (by intro _; omega) rfl hcn (by omega) (Nat.le_trans hgr hWn.size) ?_); intro v2 w11 hown5 hg5 hob5)
        have hWr5 := grownI_ext hown2 hg5 (hWr.trans hWn) hls2
        have hb5 := grownI_heap hown2 hg5 (hown2.low hs2) (heap_ext hb0 hWn)
        have hop5 := grownI_heap hown2 hg5 (hown2.ne_box (heap_ext hop hWn) (by decide)) (heap_ext hop hWn)
        have hou5 := grownI_heap hown2 hg5 (hown2.ne_box (heap_ext hou hWn) (by decide)) (heap_ext hou hWn)
        have hV5 := WldV.grownI hown2 hg5 (hbV.ext hWn) hkj.2.2
        obtain ⟨hDp, hDm⟩ : (∀ g o, (g = gP ∨ g = gM) → W10.heap[g]? = some o → True) ∧ True := ⟨fun _ _ _ _ => trivial, trivial⟩
        obtain ⟨dA, dq, dc, dB, db, dC, dd, hd0, hdV⟩ := hD.wld
        have hd5 := grownI_heap hown2 hg5 (hown2.low hs1) (heap_ext hd0 hWn)
        have hdV5 := WldV.grownI hown2 hg5 (hdV.ext hWn) hk1.2.2
        have hgr5 : gs ≤ w11.heap.size := Nat.le_trans hgr (Nat.le_trans hWn.size hg5.size)
        have hgu5 : gu < w11.heap.size := Nat.lt_of_lt_of_le hgu2 (Nat.le_trans hWn.size hg5.size)
        have hown6 : IntOwn w11 gs v2 (held ++ [r]).length (held ++ [r]) := by simpa using hown5
        clear hown2 hg5 hob5 hcn hWn hown hown5 hb0 hbV hgr hWr hop hou hD hd0 hdV hDp hDm hgu2 o0 o1 o2 o3 u0 u1 u2 u3 u4
        have hb0 := hb5
        have hbV := hV5
        have hop := hop5
        have hou := hou5
        have hWr := hWr5
        have hgr := hgr5
        have hown := hown6
        have hgu2 := hgu5
        have hd0 := hd5
        have hdV := hdV5
        clear hb5 hV5 hop5 hou5 hWr5 hgr5 hown6 hgu5 hd5 hdV5
        have o0 : w11.cell? ⟨gk + 1, 0, none⟩ = some (.int .i64 6) := by simp [World.cell?, hop]
        have o1 : w11.cell? ⟨gk + 1, 1, none⟩ = some (.int .i64 0) := by simp [World.cell?, hop]
        have o2 : w11.cell? ⟨gk + 1, 2, none⟩ = some (.int .i64 0) := by simp [World.cell?, hop]
        have o3 : w11.cell? ⟨gk + 1, 3, none⟩ = some (.int .u64 0) := by simp [World.cell?, hop]
        have e0 : w11.cell? ⟨gv, 0, none⟩ = some (.int .i64 Xj.T) := by simp [World.cell?, hb0]
        have e1 : w11.cell? ⟨gv, 1, none⟩ = some (.int .i64 Xj.C) := by simp [World.cell?, hb0]
        have e2 : w11.cell? ⟨gv, 2, none⟩ = some (.slice bA bq bc) := by simp [World.cell?, hb0]
        have e3 : w11.cell? ⟨gv, 3, none⟩ = some (.int .u64 Xj.R) := by simp [World.cell?, hb0]
        have e4 : w11.cell? ⟨gv, 4, none⟩ = some (.slice bB Xj.n bb) := by simp [World.cell?, hb0]
        have e5 : w11.cell? ⟨gv, 5, none⟩ = some (.slice bC Xj.n bd) := by simp [World.cell?, hb0]
        go_wp2_with fail
        refine (hcon _ _ _ _ hbV).mono ?_
        clear hcon
        rintro e w12 ⟨v_, rfl, hVc, hx_⟩
        obtain ⟨cA, cq, cc, cB, cb, cC, cd, rfl⟩ := hVc.form6
        replace hgr := Nat.le_trans hgr hx_.size
        replace hgu2 := Nat.lt_of_lt_of_le hgu2 hx_.size
        clear o0 o1 o2 o3 e0 e1 e2 e3 e4 e5
        replace hb0 := heap_ext hb0 hx_
        replace hop := heap_ext hop hx_
        replace hou := heap_ext hou hx_
        replace hd0 := heap_ext hd0 hx_
        replace hbV := hbV.ext hx_
        replace hown := hown.ext hx_
        replace hdV := hdV.ext hx_
        replace hWr := hWr.trans hx_
        clear hx_
        go_upto_region 35 with (fail)
        obtain ⟨hx_, hbc, hoc⟩ := two_boxes7 w12 (.cells #[.int .i64 X1.T, .int .i64 X1.C, .slice cA cq cc, .int .u64 X1.R, .slice cB X1.n cb, .slice cC X1.n cd] 51) (.cells #[.int .i64 0, .bool false, .int .i64 r, .int .u64 0, .slice none 0 0] 37)
        generalize (w12.alloc (.cells #[.int .i64 X1.T, .int .i64 X1.C, .slice cA cq cc, .int .u64 X1.R, .slice cB X1.n cb, .slice cC X1.n cd] 51)).alloc (.cells #[.int .i64 0, .bool false, .int .i64 r, .int .u64 0, .slice none 0 0] 37) = W12 at *
        have hgc := hgr
        have hguc := hgu2
        replace hgr := Nat.le_trans hgr hx_.size
        generalize w12.heap.size = gc at *
        replace hb0 := heap_ext hb0 hx_
        replace hop := heap_ext hop hx_
        replace hou := heap_ext hou hx_
        replace hd0 := heap_ext hd0 hx_
        replace hbV := hbV.ext hx_
        replace hown := hown.ext hx_
        replace hdV := hdV.ext hx_
        replace hVc := hVc.ext hx_
        replace hWr := hWr.trans hx_
        clear hx_
        have r0 : W12.cell? ⟨gc + 1, 0, none⟩ = some (.int .i64 0) := by simp [World.cell?, hoc]
        have r1 : W12.cell? ⟨gc + 1, 1, none⟩ = some (.bool false) := by simp [World.cell?, hoc]
        have r2 : W12.cell? ⟨gc + 1, 2, none⟩ = some (.int .i64 r) := by simp [World.cell?, hoc]
        have r3 : W12.cell? ⟨gc + 1, 3, none⟩ = some (.int .u64 0) := by simp [World.cell?, hoc]
        have r4 : W12.cell? ⟨gc + 1, 4, none⟩ = some (.slice none 0 0) := by simp [World.cell?, hoc]
        have u0 : W12.cell? ⟨gu, 0, none⟩ = some (.int .i64 0) := by simp [World.cell?, hou]
        have u1 : W12.cell? ⟨gu, 1, none⟩ = some (.bool false) := by simp [World.cell?, hou]
        have u2 : W12.cell? ⟨gu, 2, none⟩ = some (.int .i64 r) := by simp [World.cell?, hou]
        have u3 : W12.cell? ⟨gu, 3, none⟩ = some (.int .u64 0) := by simp [World.cell?, hou]
        have u4 : W12.cell? ⟨gu, 4, none⟩ = some (.slice none 0 0) := by simp [World.cell?, hou]
        go_wp2_with fail
        refine (outs_lit _).mono ?_
        rintro e w13 ⟨rfl, hx_⟩
        replace hgr := Nat.le_trans hgr hx_.size
        clear r0 r1 r2 r3 r4 u0 u1 u2 u3 u4
        replace hb0 := heap_ext hb0 hx_
        replace hop := heap_ext hop hx_
        replace hou := heap_ext hou hx_
        replace hd0 := heap_ext hd0 hx_
        replace hbc := heap_ext hbc hx_
        replace hoc := heap_ext hoc hx_
        replace hbV := hbV.ext hx_
        replace hown := hown.ext hx_
        replace hdV := hdV.ext hx_
        replace hVc := hVc.ext hx_
        replace hWr := hWr.trans hx_
        clear hx_
        go_upto_region 37 with (fail)
        have nc : ¬ gv = gc := by omega
        have nc' : ¬ gc = gv := by omega
        have f0 : w13.cell? ⟨gc, 0, none⟩ = some (.int .i64 X1.T) := by simp [World.cell?, hbc]
        have f1 : w13.cell? ⟨gc, 1, none⟩ = some (.int .i64 X1.C) := by simp [World.cell?, hbc]
        have f2 : w13.cell? ⟨gc, 2, none⟩ = some (.slice cA cq cc) := by simp [World.cell?, hbc]
        have f3 : w13.cell? ⟨gc, 3, none⟩ = some (.int .u64 X1.R) := by simp [World.cell?, hbc]
        have f4 : w13.cell? ⟨gc, 4, none⟩ = some (.slice cB X1.n cb) := by simp [World.cell?, hbc]
        have f5 : w13.cell? ⟨gc, 5, none⟩ = some (.slice cC X1.n cd) := by simp [World.cell?, hbc]
        have e0 : w13.cell? ⟨gv, 0, none⟩ = some (.int .i64 Xj.T) := by simp [World.cell?, hb0]
        have ef0 : w13.frozen? ⟨gv, 0, none⟩ = false := by simp [World.frozen?, hb0]
        have e1 : w13.cell? ⟨gv, 1, none⟩ = some (.int .i64 Xj.C) := by simp [World.cell?, hb0]
        have ef1 : w13.frozen? ⟨gv, 1, none⟩ = false := by simp [World.frozen?, hb0]
        have e2 : w13.cell? ⟨gv, 2, none⟩ = some (.slice bA bq bc) := by simp [World.cell?, hb0]
        have ef2 : w13.frozen? ⟨gv, 2, none⟩ = false := by simp [World.frozen?, hb0]
        have e3 : w13.cell? ⟨gv, 3, none⟩ = some (.int .u64 Xj.R) := by simp [World.cell?, hb0]
        have ef3 : w13.frozen? ⟨gv, 3, none⟩ = false := by simp [World.frozen?, hb0]
        have e4 : w13.cell? ⟨gv, 4, none⟩ = some (.slice bB Xj.n bb) := by simp [World.cell?, hb0]
        have ef4 : w13.frozen? ⟨gv, 4, none⟩ = false := by simp [World.frozen?, hb0]
        have e5 : w13.cell? ⟨gv, 5, none⟩ = some (.slice bC Xj.n bd) := by simp [World.cell?, hb0]
        have ef5 : w13.frozen? ⟨gv, 5, none⟩ = false := by simp [World.frozen?, hb0]
        go_wp2
        have hb0_ : ((((((w13.setCell ⟨gv, 0, none⟩ (.int .i64 X1.T)).setCell ⟨gv, 1, none⟩ (.int .i64 X1.C)).setCell ⟨gv, 2, none⟩ (.slice cA cq cc)).setCell ⟨gv, 3, none⟩ (.int .u64 X1.R)).setCell ⟨gv, 4, none⟩ (.slice cB X1.n cb)).setCell ⟨gv, 5, none⟩ (.slice cC X1.n cd)).heap[gv]? = some (.cells #[.int .i64 X1.T, .int .i64 X1.C, .slice cA cq cc, .int .u64 X1.R, .slice cB X1.n cb, .slice cC X1.n cd] 51 (0, 0)) := setAll_all (vs := [.int .i64 X1.T, .int .i64 X1.C, .slice cA cq cc, .int .u64 X1.R, .slice cB X1.n cb, .slice cC X1.n cd]) hb0 rfl
        have hWs_ : Ext w ((((((w13.setCell ⟨gv, 0, none⟩ (.int .i64 X1.T)).setCell ⟨gv, 1, none⟩ (.int .i64 X1.C)).setCell ⟨gv, 2, none⟩ (.slice cA cq cc)).setCell ⟨gv, 3, none⟩ (.int .u64 X1.R)).setCell ⟨gv, 4, none⟩ (.slice cB X1.n cb)).setCell ⟨gv, 5, none⟩ (.slice cC X1.n cd)) := setAll_ext (g := gv) (vs := [.int .i64 X1.T, .int .i64 X1.C, .slice cA cq cc, .int .u64 X1.R, .slice cB X1.n cb, .slice cC X1.n cd]) (i := 0) hWr hlsv
        have hk_ : ∀ g, g ≠ gv → ((((((w13.setCell ⟨gv, 0, none⟩ (.int .i64 X1.T)).setCell ⟨gv, 1, none⟩ (.int .i64 X1.C)).setCell ⟨gv, 2, none⟩ (.slice cA cq cc)).setCell ⟨gv, 3, none⟩ (.int .u64 X1.R)).setCell ⟨gv, 4, none⟩ (.slice cB X1.n cb)).setCell ⟨gv, 5, none⟩ (.slice cC X1.n cd)).heap[g]? = w13.heap[g]? := fun g hg => setAll_other (g := gv) (k := g) hg [.int .i64 X1.T, .int .i64 X1.C, .slice cA cq cc, .int .u64 X1.R, .slice cB X1.n cb, .slice cC X1.n cd] 0 w13
        have hd0_ := (hk_ ga (Ne.symm hng)).trans hd0
        have hVc_ := hVc.but hk1.2.2 (But.all gv [.int .i64 X1.T, .int .i64 X1.C, .slice cA cq cc, .int .u64 X1.R, .slice cB X1.n cb, .slice cC X1.n cd] 0 w13) hb0 rfl
        change WldV ((((((w13.setCell ⟨gv, 0, none⟩ (.int .i64 X1.T)).setCell ⟨gv, 1, none⟩ (.int .i64 X1.C)).setCell ⟨gv, 2, none⟩ (.slice cA cq cc)).setCell ⟨gv, 3, none⟩ (.int .u64 X1.R)).setCell ⟨gv, 4, none⟩ (.slice cB X1.n cb)).setCell ⟨gv, 5, none⟩ (.slice cC X1.n cd)) _ _ at hVc_
        have hdV_ := hdV.but hk1.2.2 (But.all gv [.int .i64 X1.T, .int .i64 X1.C, .slice cA cq cc, .int .u64 X1.R, .slice cB X1.n cb, .slice cC X1.n cd] 0 w13) hb0 rfl
        change WldV ((((((w13.setCell ⟨gv, 0, none⟩ (.int .i64 X1.T)).setCell ⟨gv, 1, none⟩ (.int .i64 X1.C)).setCell ⟨gv, 2, none⟩ (.slice cA cq cc)).setCell ⟨gv, 3, none⟩ (.int .u64 X1.R)).setCell ⟨gv, 4, none⟩ (.slice cB X1.n cb)).setCell ⟨gv, 5, none⟩ (.slice cC X1.n cd)) _ _ at hdV_
        have hsz_ : ((((((w13.setCell ⟨gv, 0, none⟩ (.int .i64 X1.T)).setCell ⟨gv, 1, none⟩ (.int .i64 X1.C)).setCell ⟨gv, 2, none⟩ (.slice cA cq cc)).setCell ⟨gv, 3, none⟩ (.int .u64 X1.R)).setCell ⟨gv, 4, none⟩ (.slice cB X1.n cb)).setCell ⟨gv, 5, none⟩ (.slice cC X1.n cd)).heap.size = w13.heap.size := by simp [World.setCell]
        have hown_ := hown.kept (w' := ((((((w13.setCell ⟨gv, 0, none⟩ (.int .i64 X1.T)).setCell ⟨gv, 1, none⟩ (.int .i64 X1.C)).setCell ⟨gv, 2, none⟩ (.slice cA cq cc)).setCell ⟨gv, 3, none⟩ (.int .u64 X1.R)).setCell ⟨gv, 4, none⟩ (.slice cB X1.n cb)).setCell ⟨gv, 5, none⟩ (.slice cC X1.n cd))) (fun g o hb hv ho => (hk_ g (by omega)).trans ho)
        have hgr_ : gs ≤ ((((((w13.setCell ⟨gv, 0, none⟩ (.int .i64 X1.T)).setCell ⟨gv, 1, none⟩ (.int .i64 X1.C)).setCell ⟨gv, 2, none⟩ (.slice cA cq cc)).setCell ⟨gv, 3, none⟩ (.int .u64 X1.R)).setCell ⟨gv, 4, none⟩ (.slice cB X1.n cb)).setCell ⟨gv, 5, none⟩ (.slice cC X1.n cd)).heap.size := by rw [hsz_]; exact hgr
        clear hk_ hsz_ hown hgr hoc hou hop hb0 hVc hWr hbc hbV hd0 hdV f0 f1 f2 f3 f4 f5 e0 e1 e2 e3 e4 e5 ef0 ef1 ef2 ef3 ef4 ef5
        generalize ((((((w13.setCell ⟨gv, 0, none⟩ (.int .i64 X1.T)).setCell ⟨gv, 1, none⟩ (.int .i64 X1.C)).setCell ⟨gv, 2, none⟩ (.slice cA cq cc)).setCell ⟨gv, 3, none⟩ (.int .u64 X1.R)).setCell ⟨gv, 4, none⟩ (.slice cB X1.n cb)).setCell ⟨gv, 5, none⟩ (.slice cC X1.n cd)) = wg at *
        go_roundw
        case rel => exact ⟨j + 1, X1, S1, held ++ [r], by go_num, by omega, ⟨_, hd0_, hdV_⟩, ⟨_, hb0_, hVc_⟩, hp1, hk1, hhe1, hse1, hown_, hWs_, hgr_⟩
        case measure => simp [intOf]; omega
    · have hz6 : Int.tmod (z : Int) 6 = 4 := by rw [Int.tmod_eq_emod_of_nonneg (by omega)]; omega
      have hz6u : IntKind.u8.wrap 4 = 4 := by rfl
      have hxk : Ext w5 (w5.alloc (.cells #[.int .i64 3, .int .i64 4, .int .i64 6, .int .i64 6, .int .i64 5, .int .i64 19] 3)) := (Below.refl _ w5).alloc (Nat.le_refl _) _
      have hczk := hxk.cell hcz
      have hkk := heap_alloc_new w5 (.cells #[.int .i64 3, .int .i64 4, .int .i64 6, .int .i64 6, .int .i64 5, .int .i64 19] 3)
      have hkc : (w5.alloc (.cells #[.int .i64 3, .int .i64 4, .int .i64 6, .int .i64 6, .int .i64 5, .int .i64 19] 3)).cell? ⟨w5.heap.size, 4, none⟩ = some (.int .i64 5) := by unfold World.cell?; rw [hkk]; rfl
      clear hxk hkk
      go_upto_region 14 with (fail)
      obtain ⟨hx_, hks, hop⟩ := two_boxes7 w5 (.cells #[.int .i64 3, .int .i64 4, .int .i64 6, .int .i64 6, .int .i64 5, .int .i64 19] 3) (.cells #[.int .i64 5, .int .i64 0, .int .i64 0, .int .u64 0] 24)
      generalize (w5.alloc (.cells #[.int .i64 3, .int .i64 4, .int .i64 6, .int .i64 6, .int .i64 5, .int .i64 19] 3)).alloc (.cells #[.int .i64 5, .int .i64 0, .int .i64 0, .int .u64 0] 24) = W6 at *
      have hgk := hgr
      replace hgr := Nat.le_trans hgr hx_.size
      have hlk : gP < w5.heap.size ∧ gM < w5.heap.size := ⟨hP2, hM2⟩
      generalize w5.heap.size = gk at *
      replace hb0 := heap_ext hb0 hx_
      replace hbV := hbV.ext hx_
      replace hown := hown.ext hx_
      replace hD := hD.ext hx_
      replace hWr := hWr.trans hx_
      clear hx_
      clear hks hcz hczk hkc hz6 hz6u hP1 hM1 hP2 hM2
      have o0 : W6.cell? ⟨gk + 1, 0, none⟩ = some (.int .i64 5) := by simp [World.cell?, hop]
      have o1 : W6.cell? ⟨gk + 1, 1, none⟩ = some (.int .i64 0) := by simp [World.cell?, hop]
      have o2 : W6.cell? ⟨gk + 1, 2, none⟩ = some (.int .i64 0) := by simp [World.cell?, hop]
      have o3 : W6.cell? ⟨gk + 1, 3, none⟩ = some (.int .u64 0) := by simp [World.cell?, hop]
      rcases Nat.eq_zero_or_pos held.length with hl0 | hl0
      · have hlB : ((held.length : Int) == 0) = true := beq_iff_eq.2 (by omega)
        clear hl0
        obtain ⟨dA, dq, dc, dB, db, dC, dd, hd0, hdV⟩ := hD.wld
        go_wp2
        go_roundw
        case rel => exact ⟨j + 1, Xj, S, held, by go_num, by omega, ⟨_, hd0, hdV⟩, ⟨_, hb0, hbV⟩, hpj, hkj, hhe, by omega, hown, hWr, hgr⟩
        case measure => simp [intOf]; omega
      have hl1 : ¬ (held.length : Int) = 0 := by omega
      have hlB : ((held.length : Int) == 0) = false := beq_eq_false_iff_ne.2 hl1
      go_upto_region 17 with (fail)
      have hx_ : Ext W6 (W6.alloc (.cells #[.int .i64 0, .bool false, .int .i64 0, .int .u64 0, .slice none 0 0] 37)) := (Below.refl _ W6).alloc (Nat.le_refl _) _
      have hou := heap_alloc_new W6 (.cells #[.int .i64 0, .bool false, .int .i64 0, .int .u64 0, .slice none 0 0] 37)
      generalize W6.alloc (.cells #[.int .i64 0, .bool false, .int .i64 0, .int .u64 0, .slice none 0 0] 37) = W7 at *
      have hgu : gk + 1 < W6.heap.size := (Array.getElem?_eq_some_iff.1 hop).1
      replace hgr := Nat.le_trans hgr hx_.size
      generalize W6.heap.size = gu at *
      clear o0 o1 o2 o3
      replace hb0 := heap_ext hb0 hx_
      replace hop := heap_ext hop hx_
      replace hbV := hbV.ext hx_
      replace hown := hown.ext hx_
      replace hD := hD.ext hx_
      replace hWr := hWr.trans hx_
      clear hx_
      have hgu2 : gu < W7.heap.size := (Array.getElem?_eq_some_iff.1 hou).1
      have o0 : W7.cell? ⟨gk + 1, 0, none⟩ = some (.int .i64 5) := by simp [World.cell?, hop]
      have of0 : W7.frozen? ⟨gk + 1, 0, none⟩ = false := by simp [World.frozen?, hop]
      have o1 : W7.cell? ⟨gk + 1, 1, none⟩ = some (.int .i64 0) := by simp [World.cell?, hop]
      have of1 : W7.frozen? ⟨gk + 1, 1, none⟩ = false := by simp [World.frozen?, hop]
      have o2 : W7.cell? ⟨gk + 1, 2, none⟩ = some (.int .i64 0) := by simp [World.cell?, hop]
      have of2 : W7.frozen? ⟨gk + 1, 2, none⟩ = false := by simp [World.frozen?, hop]
      have o3 : W7.cell? ⟨gk + 1, 3, none⟩ = some (.int .u64 0) := by simp [World.cell?, hop]
      have of3 : W7.frozen? ⟨gk + 1, 3, none⟩ = false := by simp [World.frozen?, hop]
      have u0 : W7.cell? ⟨gu, 0, none⟩ = some (.int .i64 0) := by simp [World.cell?, hou]
      have uf0 : W7.frozen? ⟨gu, 0, none⟩ = false := by simp [World.frozen?, hou]
      have u1 : W7.cell? ⟨gu, 1, none⟩ = some (.bool false) := by simp [World.cell?, hou]
      have uf1 : W7.frozen? ⟨gu, 1, none⟩ = false := by simp [World.frozen?, hou]
      have u2 : W7.cell? ⟨gu, 2, none⟩ = some (.int .i64 0) := by simp [World.cell?, hou]
      have uf2 : W7.frozen? ⟨gu, 2, none⟩ = false := by simp [World.frozen?, hou]
      have u3 : W7.cell? ⟨gu, 3, none⟩ = some (.int .u64 0) := by simp [World.cell?, hou]
      have uf3 : W7.frozen? ⟨gu, 3, none⟩ = false := by simp [World.frozen?, hou]
      have u4 : W7.cell? ⟨gu, 4, none⟩ = some (.slice none 0 0) := by simp [World.cell?, hou]
      have uf4 : W7.frozen? ⟨gu, 4, none⟩ = false := by simp [World.frozen?, hou]
      obtain ⟨x, hspl, hlx⟩ := last_split hl0
      obtain ⟨hhe1, hxn, hx1, hxN⟩ := HE.back (h1 := held.dropLast) (h2 := []) (by rw [← hspl]; exact hhe)
      rw [List.append_nil] at hhe1
      obtain ⟨X1, hp1, hk1, hcon, hdc⟩ := both_retire hpj hkj hme (most := 300) (by omega) hx1 hxN hxn (by omega)
      have hse1 : (S.retire x).e ≤ 3 * (j + 1) := Nat.le_trans hse (by omega)
      generalize S.retire x = S1 at *
      obtain ⟨g1, c1, e1, hg1, -, -, hcl⟩ := hown.at hlx
      cases e1
      obtain ⟨n1, hn1⟩ : ∃ n1, held.length = n1 + 1 := ⟨held.length - 1, by omega⟩
      have hnI : (held.length : Int) - 1 = (n1 : Int) := by omega
      rw [hn1, Nat.add_sub_cancel] at hcl
      have hnL : (n1 : Int) < (held.length : Int) := by omega
      have hnc : (n1 : Int) ≤ (hvc : Int) := by omega
      have hn0 : (0 : Int) ≤ (n1 : Int) := by omega
      have hnn : ¬ (n1 : Int) < 0 := by omega
      have hxB : (x == 0) = false := beq_eq_false_iff_ne.2 (by omega)
      have HN1 := Lib.hid hn1
      clear hn1 hspl hlx
      simp only [AloneC] at hcon
      rw [show (((300 : Nat) : Int)) = 300 from rfl] at hcon
      simp only [dirV13] at hdc
      try rw [show (((2 : Nat) : Int)) = 2 from rfl] at hdc
      clear hhe hpj hse
      go_upto_region 30 with (fail)
      obtain ⟨hop2, hbut, hsz_⟩ := set_box (i := 1) (v := .int .i64 x) hop (by decide)
      have hWr2 : Ext w (W7.setCell ⟨gk + 1, 1, none⟩ (.int .i64 x)) := set_ext hWr (by omega)
      have hb02 := hbut _ _ (by omega) hb0
      have hou2 := hbut _ _ (by omega) hou
      have hbV2 := hbV.but hkj.2.2 hbut hop rfl
      have hD2 := hD.but hbut hop rfl hkj.2.2 (by omega) (by omega) (by omega)
      have hown2 : IntOwn (W7.setCell ⟨gk + 1, 1, none⟩ (.int .i64 x)) gs _ held.length held := hown.kept (fun g o hb hv ho => hbut _ _ (fun e => hown.ne_box hop (by decide) (by rw [← hv, e])) ho)
      replace hgr : gs ≤ (W7.setCell ⟨gk + 1, 1, none⟩ (.int .i64 x)).heap.size := by rw [hsz_]; exact hgr
      replace hgu2 : gu < (W7.setCell ⟨gk + 1, 1, none⟩ (.int .i64 x)).heap.size := by rw [hsz_]; exact hgu2
      clear hop hb0 hou hbV hD hown hWr hbut hsz_ hcl o0 o1 o2 o3 of0 of1 of2 of3 u0 u1 u2 u3 u4 uf0 uf1 uf2 uf3 uf4
      generalize (W7.setCell ⟨gk + 1, 1, none⟩ (.int .i64 x)) = W8 at *
      have hop := hop2
      have hb0 := hb02
      have hou := hou2
      have hbV := hbV2
      have hD := hD2
      have hown := hown2
      have hWr := hWr2
      clear hop2 hb02 hou2 hbV2 hD2 hown2 hWr2
      have o0 : W8.cell? ⟨gk + 1, 0, none⟩ = some (.int .i64 5) := by simp [World.cell?, hop]
      have o1 : W8.cell? ⟨gk + 1, 1, none⟩ = some (.int .i64 x) := by simp [World.cell?, hop]
      have o2 : W8.cell? ⟨gk + 1, 2, none⟩ = some (.int .i64 0) := by simp [World.cell?, hop]
      have o3 : W8.cell? ⟨gk + 1, 3, none⟩ = some (.int .u64 0) := by simp [World.cell?, hop]
      have u0 : W8.cell? ⟨gu, 0, none⟩ = some (.int .i64 0) := by simp [World.cell?, hou]
      have uf0 : W8.frozen? ⟨gu, 0, none⟩ = false := by simp [World.frozen?, hou]
      have u1 : W8.cell? ⟨gu, 1, none⟩ = some (.bool false) := by simp [World.cell?, hou]
      have uf1 : W8.frozen? ⟨gu, 1, none⟩ = false := by simp [World.frozen?, hou]
      have u2 : W8.cell? ⟨gu, 2, none⟩ = some (.int .i64 0) := by simp [World.cell?, hou]
      have uf2 : W8.frozen? ⟨gu, 2, none⟩ = false := by simp [World.frozen?, hou]
      have u3 : W8.cell? ⟨gu, 3, none⟩ = some (.int .u64 0) := by simp [World.cell?, hou]
      have uf3 : W8.frozen? ⟨gu, 3, none⟩ = false := by simp [World.frozen?, hou]
      have u4 : W8.cell? ⟨gu, 4, none⟩ = some (.slice none 0 0) := by simp [World.cell?, hou]
      have uf4 : W8.frozen? ⟨gu, 4, none⟩ = false := by simp [World.frozen?, hou]
      go_wp2_with fail
      refine (hdc _ _ _ _ hD).mono ?_
      rintro e w9 ⟨rfl, hD9, hx_⟩
      obtain ⟨dA, dq, dc, dB, db, dC, dd, hd0, -⟩ := hD.wld
      have hb09 := hx_.heap hb0 hng
      have hop9 := hx_.heap hop (by omega)
      have hou9 := hx_.heap hou (by omega)
      have hbV9 := hbV.extB hx_ hd0 rfl hkj.2.2
      have hown9 := hown.kept (fun g o hb hv ho => hx_.heap ho (by omega))
      have hWr9 := hx_.ext hWr hls
      have hgr9 := Nat.le_trans hgr hx_.size
      have hgu9 := Nat.lt_of_lt_of_le hgu2 hx_.size
      clear hd0 hb0 hbV hown hWr hgr hD hx_ hdc hop hou hgu2 o0 o1 o2 o3 u0 u1 u2 u3 u4 uf0 uf1 uf2 uf3 uf4
      have hb0 := hb09
      have hbV := hbV9
      have hown := hown9
      have hWr := hWr9
      have hgr := hgr9
      have hD := hD9
      have hop := hop9
      have hou := hou9
      have hgu2 := hgu9
      clear hb09 hbV9 hown9 hWr9 hgr9 hD9 hop9 hou9 hgu9
      have o0 : w9.cell? ⟨gk + 1, 0, none⟩ = some (.int .i64 5) := by simp [World.cell?, hop]
      have o1 : w9.cell? ⟨gk + 1, 1, none⟩ = some (.int .i64 x) := by simp [World.cell?, hop]
      have o2 : w9.cell? ⟨gk + 1, 2, none⟩ = some (.int .i64 0) := by simp [World.cell?, hop]
      have o3 : w9.cell? ⟨gk + 1, 3, none⟩ = some (.int .u64 0) := by simp [World.cell?, hop]
      have u0 : w9.cell? ⟨gu, 0, none⟩ = some (.int .i64 0) := by simp [World.cell?, hou]
      have u1 : w9.cell? ⟨gu, 1, none⟩ = some (.bool false) := by simp [World.cell?, hou]
      have u2 : w9.cell? ⟨gu, 2, none⟩ = some (.int .i64 0) := by simp [World.cell?, hou]
      have u3 : w9.cell? ⟨gu, 3, none⟩ = some (.int .u64 0) := by simp [World.cell?, hou]
      have u4 : w9.cell? ⟨gu, 4, none⟩ = some (.slice none 0 0) := by simp [World.cell?, hou]
      obtain ⟨dA, dq, dc, dB, db, dC, dd, hd0, hdV⟩ := hD.wld
      clear hD
      have e0 : w9.cell? ⟨gv, 0, none⟩ = some (.int .i64 Xj.T) := by simp [World.cell?, hb0]
      have e1 : w9.cell? ⟨gv, 1, none⟩ = some (.int .i64 Xj.C) := by simp [World.cell?, hb0]
      have e2 : w9.cell? ⟨gv, 2, none⟩ = some (.slice bA bq bc) := by simp [World.cell?, hb0]
      have e3 : w9.cell? ⟨gv, 3, none⟩ = some (.int .u64 Xj.R) := by simp [World.cell?, hb0]
      have e4 : w9.cell? ⟨gv, 4, none⟩ = some (.slice bB Xj.n bb) := by simp [World.cell?, hb0]
      have e5 : w9.cell? ⟨gv, 5, none⟩ = some (.slice bC Xj.n bd) := by simp [World.cell?, hb0]
      go_wp2_with fail
      refine (hcon _ _ _ _ hbV).mono ?_
      clear hcon
      rintro e w12 ⟨v_, rfl, hVc, hx_⟩
      obtain ⟨cA, cq, cc, cB, cb, cC, cd, rfl⟩ := hVc.form6
      replace hgr := Nat.le_trans hgr hx_.size
      replace hgu2 := Nat.lt_of_lt_of_le hgu2 hx_.size
      clear o0 o1 o2 o3 u0 u1 u2 u3 u4 e0 e1 e2 e3 e4 e5
      replace hb0 := heap_ext hb0 hx_
      replace hop := heap_ext hop hx_
      replace hou := heap_ext hou hx_
      replace hd0 := heap_ext hd0 hx_
      replace hbV := hbV.ext hx_
      replace hown := hown.ext hx_
      replace hdV := hdV.ext hx_
      replace hWr := hWr.trans hx_
      clear hx_
      go_upto_region 35 with (fail)
      obtain ⟨hx_, hbc, hoc⟩ := two_boxes7 w12 (.cells #[.int .i64 X1.T, .int .i64 X1.C, .slice cA cq cc, .int .u64 X1.R, .slice cB X1.n cb, .slice cC X1.n cd] 51) (.cells #[.int .i64 0, .bool false, .int .i64 0, .int .u64 0, .slice none 0 0] 37)
      generalize (w12.alloc (.cells #[.int .i64 X1.T, .int .i64 X1.C, .slice cA cq cc, .int .u64 X1.R, .slice cB X1.n cb, .slice cC X1.n cd] 51)).alloc (.cells #[.int .i64 0, .bool false, .int .i64 0, .int .u64 0, .slice none 0 0] 37) = W12 at *
      have hgc := hgr
      have hguc := hgu2
      replace hgr := Nat.le_trans hgr hx_.size
      generalize w12.heap.size = gc at *
      replace hb0 := heap_ext hb0 hx_
      replace hop := heap_ext hop hx_
      replace hou := heap_ext hou hx_
      replace hd0 := heap_ext hd0 hx_
      replace hbV := hbV.ext hx_
      replace hown := hown.ext hx_
      replace hdV := hdV.ext hx_
      replace hVc := hVc.ext hx_
      replace hWr := hWr.trans hx_
      clear hx_
      have r0 : W12.cell? ⟨gc + 1, 0, none⟩ = some (.int .i64 0) := by simp [World.cell?, hoc]
      have r1 : W12.cell? ⟨gc + 1, 1, none⟩ = some (.bool false) := by simp [World.cell?, hoc]
      have r2 : W12.cell? ⟨gc + 1, 2, none⟩ = some (.int .i64 0) := by simp [World.cell?, hoc]
      have r3 : W12.cell? ⟨gc + 1, 3, none⟩ = some (.int .u64 0) := by simp [World.cell?, hoc]
      have r4 : W12.cell? ⟨gc + 1, 4, none⟩ = some (.slice none 0 0) := by simp [World.cell?, hoc]
      have u0 : W12.cell? ⟨gu, 0, none⟩ = some (.int .i64 0) := by simp [World.cell?, hou]
      have u1 : W12.cell? ⟨gu, 1, none⟩ = some (.bool false) := by simp [World.cell?, hou]
      have u2 : W12.cell? ⟨gu, 2, none⟩ = some (.int .i64 0) := by simp [World.cell?, hou]
      have u3 : W12.cell? ⟨gu, 3, none⟩ = some (.int .u64 0) := by simp [World.cell?, hou]
      have u4 : W12.cell? ⟨gu, 4, none⟩ = some (.slice none 0 0) := by simp [World.cell?, hou]
      go_wp2_with fail
      refine (outs_lit _).mono ?_
      rintro e w13 ⟨rfl, hx_⟩
      replace hgr := Nat.le_trans hgr hx_.size
      clear r0 r1 r2 r3 r4 u0 u1 u2 u3 u4
      replace hb0 := heap_ext hb0 hx_
      replace hop := heap_ext hop hx_
      replace hou := heap_ext hou hx_
      replace hd0 := heap_ext hd0 hx_
      replace hbc := heap_ext hbc hx_
      replace hoc := heap_ext hoc hx_
      replace hbV := hbV.ext hx_
      replace hown := hown.ext hx_
      replace hdV := hdV.ext hx_
      replace hVc := hVc.ext hx_
      replace hWr := hWr.trans hx_
      clear hx_
      go_upto_region 37 with (fail)
      have nc : ¬ gv = gc := by omega
      have nc' : ¬ gc = gv := by omega
      have f0 : w13.cell? ⟨gc, 0, none⟩ = some (.int .i64 X1.T) := by simp [World.cell?, hbc]
      have f1 : w13.cell? ⟨gc, 1, none⟩ = some (.int .i64 X1.C) := by simp [World.cell?, hbc]
      have f2 : w13.cell? ⟨gc, 2, none⟩ = some (.slice cA cq cc) := by simp [World.cell?, hbc]
      have f3 : w13.cell? ⟨gc, 3, none⟩ = some (.int .u64 X1.R) := by simp [World.cell?, hbc]
      have f4 : w13.cell? ⟨gc, 4, none⟩ = some (.slice cB X1.n cb) := by simp [World.cell?, hbc]
      have f5 : w13.cell? ⟨gc, 5, none⟩ = some (.slice cC X1.n cd) := by simp [World.cell?, hbc]
      have e0 : w13.cell? ⟨gv, 0, none⟩ = some (.int .i64 Xj.T) := by simp [World.cell?, hb0]
      have ef0 : w13.frozen? ⟨gv, 0, none⟩ = false := by simp [World.frozen?, hb0]
      have e1 : w13.cell? ⟨gv, 1, none⟩ = some (.int .i64 Xj.C) := by simp [World.cell?, hb0]
      have ef1 : w13.frozen? ⟨gv, 1, none⟩ = false := by simp [World.frozen?, hb0]
      have e2 : w13.cell? ⟨gv, 2, none⟩ = some (.slice bA bq bc) := by simp [World.cell?, hb0]
      have ef2 : w13.frozen? ⟨gv, 2, none⟩ = false := by simp [World.frozen?, hb0]
      have e3 : w13.cell? ⟨gv, 3, none⟩ = some (.int .u64 Xj.R) := by simp [World.cell?, hb0]
      have ef3 : w13.frozen? ⟨gv, 3, none⟩ = false := by simp [World.frozen?, hb0]
      have e4 : w13.cell? ⟨gv, 4, none⟩ = some (.slice bB Xj.n bb) := by simp [World.cell?, hb0]
      have ef4 : w13.frozen? ⟨gv, 4, none⟩ = false := by simp [World.frozen?, hb0]
      have e5 : w13.cell? ⟨gv, 5, none⟩ = some (.slice bC Xj.n bd) := by simp [World.cell?, hb0]
      have ef5 : w13.frozen? ⟨gv, 5, none⟩ = false := by simp [World.frozen?, hb0]
      go_wp2
      have hb0_ : ((((((w13.setCell ⟨gv, 0, none⟩ (.int .i64 X1.T)).setCell ⟨gv, 1, none⟩ (.int .i64 X1.C)).setCell ⟨gv, 2, none⟩ (.slice cA cq cc)).setCell ⟨gv, 3, none⟩ (.int .u64 X1.R)).setCell ⟨gv, 4, none⟩ (.slice cB X1.n cb)).setCell ⟨gv, 5, none⟩ (.slice cC X1.n cd)).heap[gv]? = some (.cells #[.int .i64 X1.T, .int .i64 X1.C, .slice cA cq cc, .int .u64 X1.R, .slice cB X1.n cb, .slice cC X1.n cd] 51 (0, 0)) := setAll_all (vs := [.int .i64 X1.T, .int .i64 X1.C, .slice cA cq cc, .int .u64 X1.R, .slice cB X1.n cb, .slice cC X1.n cd]) hb0 rfl
      have hWs_ : Ext w ((((((w13.setCell ⟨gv, 0, none⟩ (.int .i64 X1.T)).setCell ⟨gv, 1, none⟩ (.int .i64 X1.C)).setCell ⟨gv, 2, none⟩ (.slice cA cq cc)).setCell ⟨gv, 3, none⟩ (.int .u64 X1.R)).setCell ⟨gv, 4, none⟩ (.slice cB X1.n cb)).setCell ⟨gv, 5, none⟩ (.slice cC X1.n cd)) := setAll_ext (g := gv) (vs := [.int .i64 X1.T, .int .i64 X1.C, .slice cA cq cc, .int .u64 X1.R, .slice cB X1.n cb, .slice cC X1.n cd]) (i := 0) hWr hlsv
      have hk_ : ∀ g, g ≠ gv → ((((((w13.setCell ⟨gv, 0, none⟩ (.int .i64 X1.T)).setCell ⟨gv, 1, none⟩ (.int .i64 X1.C)).setCell ⟨gv, 2, none⟩ (.slice cA cq cc)).setCell ⟨gv, 3, none⟩ (.int .u64 X1.R)).setCell ⟨gv, 4, none⟩ (.slice cB X1.n cb)).setCell ⟨gv, 5, none⟩ (.slice cC X1.n cd)).heap[g]? = w13.heap[g]? := fun g hg => setAll_other (g := gv) (k := g) hg [.int .i64 X1.T, .int .i64 X1.C, .slice cA cq cc, .int .u64 X1.R, .slice cB X1.n cb, .slice cC X1.n cd] 0 w13
      have hd0_ := (hk_ ga (Ne.symm hng)).trans hd0
      have hVc_ := hVc.but hk1.2.2 (But.all gv [.int .i64 X1.T, .int .i64 X1.C, .slice cA cq cc, .int .u64 X1.R, .slice cB X1.n cb, .slice cC X1.n cd] 0 w13) hb0 rfl
      change WldV ((((((w13.setCell ⟨gv, 0, none⟩ (.int .i64 X1.T)).setCell ⟨gv, 1, none⟩ (.int .i64 X1.C)).setCell ⟨gv, 2, none⟩ (.slice cA cq cc)).setCell ⟨gv, 3, none⟩ (.int .u64 X1.R)).setCell ⟨gv, 4, none⟩ (.slice cB X1.n cb)).setCell ⟨gv, 5, none⟩ (.slice cC X1.n cd)) _ _ at hVc_
      have hdV_ := hdV.but hk1.2.2 (But.all gv [.int .i64 X1.T, .int .i64 X1.C, .slice cA cq cc, .int .u64 X1.R, .slice cB X1.n cb, .slice cC X1.n cd] 0 w13) hb0 rfl
      change WldV ((((((w13.setCell ⟨gv, 0, none⟩ (.int .i64 X1.T)).setCell ⟨gv, 1, none⟩ (.int .i64 X1.C)).setCell ⟨gv, 2, none⟩ (.slice cA cq cc)).setCell ⟨gv, 3, none⟩ (.int .u64 X1.R)).setCell ⟨gv, 4, none⟩ (.slice cB X1.n cb)).setCell ⟨gv, 5, none⟩ (.slice cC X1.n cd)) _ _ at hdV_
      have hsz_ : ((((((w13.setCell ⟨gv, 0, none⟩ (.int .i64 X1.T)).setCell ⟨gv, 1, none⟩ (.int .i64 X1.C)).setCell ⟨gv, 2, none⟩ (.slice cA cq cc)).setCell ⟨gv, 3, none⟩ (.int .u64 X1.R)).setCell ⟨gv, 4, none⟩ (.slice cB X1.n cb)).setCell ⟨gv, 5, none⟩ (.slice cC X1.n cd)).heap.size = w13.heap.size := by simp [World.setCell]
      have hown_ := hown.kept (w' := ((((((w13.setCell ⟨gv, 0, none⟩ (.int .i64 X1.T)).setCell ⟨gv, 1, none⟩ (.int .i64 X1.C)).setCell ⟨gv, 2, none⟩ (.slice cA cq cc)).setCell ⟨gv, 3, none⟩ (.int .u64 X1.R)).setCell ⟨gv, 4, none⟩ (.slice cB X1.n cb)).setCell ⟨gv, 5, none⟩ (.slice cC X1.n cd))) (fun g o hb hv ho => (hk_ g (by omega)).trans ho)
      have hgr_ : gs ≤ ((((((w13.setCell ⟨gv, 0, none⟩ (.int .i64 X1.T)).setCell ⟨gv, 1, none⟩ (.int .i64 X1.C)).setCell ⟨gv, 2, none⟩ (.slice cA cq cc)).setCell ⟨gv, 3, none⟩ (.int .u64 X1.R)).setCell ⟨gv, 4, none⟩ (.slice cB X1.n cb)).setCell ⟨gv, 5, none⟩ (.slice cC X1.n cd)).heap.size := by rw [hsz_]; exact hgr
      clear hk_ hsz_ hown hgr hoc hou hop hb0 hVc hWr hbc hbV hd0 hdV f0 f1 f2 f3 f4 f5 e0 e1 e2 e3 e4 e5 ef0 ef1 ef2 ef3 ef4 ef5
      generalize ((((((w13.setCell ⟨gv, 0, none⟩ (.int .i64 X1.T)).setCell ⟨gv, 1, none⟩ (.int .i64 X1.C)).setCell ⟨gv, 2, none⟩ (.slice cA cq cc)).setCell ⟨gv, 3, none⟩ (.int .u64 X1.R)).setCell ⟨gv, 4, none⟩ (.slice cB X1.n cb)).setCell ⟨gv, 5, none⟩ (.slice cC X1.n cd)) = wg at *
      have hown5 : IntOwn wg gs (.slice (some ⟨g1, 0, none⟩) n1 hvc) n1 held.dropLast := by
        rw [HN1.out] at hown_; exact hown_.pop
      have hdl : held.dropLast.length = n1 := by rw [List.length_dropLast, HN1.out]; omega
      have HDL := Lib.hid hdl
      clear hdl
      go_roundw
      case rel => exact ⟨j + 1, X1, S1, held.dropLast, by go_num, by omega, ⟨_, hd0_, hdV_⟩, ⟨_, hb0_, hVc_⟩, hp1, hk1, hhe1, hse1, by rw [HDL.out]; exact hown5, hWs_, hgr_⟩
      case measure => simp [intOf]; omega
    · have hz6 : Int.tmod (z : Int) 6 = 5 := by rw [Int.tmod_eq_emod_of_nonneg (by omega)]; omega
      have hz6u : IntKind.u8.wrap 5 = 5 := by rfl
      have hxk : Ext w5 (w5.alloc (.cells #[.int .i64 3, .int .i64 4, .int .i64 6, .int .i64 6, .int .i64 5, .int .i64 19] 3)) := (Below.refl _ w5).alloc (Nat.le_refl _) _
      have hczk := hxk.cell hcz
      have hkk := heap_alloc_new w5 (.cells #[.int .i64 3, .int .i64 4, .int .i64 6, .int .i64 6, .int .i64 5, .int .i64 19] 3)
      have hkc : (w5.alloc (.cells #[.int .i64 3, .int .i64 4, .int .i64 6, .int .i64 6, .int .i64 5, .int .i64 19] 3)).cell? ⟨w5.heap.size, 5, none⟩ = some (.int .i64 19) := by unfold World.cell?; rw [hkk]; rfl
      clear hxk hkk
      go_upto_region 14 with (fail)
      obtain ⟨hx_, hks, hop⟩ := two_boxes7 w5 (.cells #[.int .i64 3, .int .i64 4, .int .i64 6, .int .i64 6, .int .i64 5, .int .i64 19] 3) (.cells #[.int .i64 19, .int .i64 0, .int .i64 0, .int .u64 0] 24)
      generalize (w5.alloc (.cells #[.int .i64 3, .int .i64 4, .int .i64 6, .int .i64 6, .int .i64 5, .int .i64 19] 3)).alloc (.cells #[.int .i64 19, .int .i64 0, .int .i64 0, .int .u64 0] 24) = W6 at *
      have hgk := hgr
      replace hgr := Nat.le_trans hgr hx_.size
      have hlk : gP < w5.heap.size ∧ gM < w5.heap.size := ⟨hP2, hM2⟩
      generalize w5.heap.size = gk at *
      replace hb0 := heap_ext hb0 hx_
      replace hbV := hbV.ext hx_
      replace hown := hown.ext hx_
      replace hD := hD.ext hx_
      replace hWr := hWr.trans hx_
      clear hx_
      clear hks hcz hczk hkc hz6 hz6u hP1 hM1 hP2 hM2
      have o0 : W6.cell? ⟨gk + 1, 0, none⟩ = some (.int .i64 19) := by simp [World.cell?, hop]
      have o1 : W6.cell? ⟨gk + 1, 1, none⟩ = some (.int .i64 0) := by simp [World.cell?, hop]
      have o2 : W6.cell? ⟨gk + 1, 2, none⟩ = some (.int .i64 0) := by simp [World.cell?, hop]
      have o3 : W6.cell? ⟨gk + 1, 3, none⟩ = some (.int .u64 0) := by simp [World.cell?, hop]
      go_upto_region 17 with (fail)
      have hx_ : Ext W6 (W6.alloc (.cells #[.int .i64 0, .bool false, .int .i64 0, .int .u64 0, .slice none 0 0] 37)) := (Below.refl _ W6).alloc (Nat.le_refl _) _
      have hou := heap_alloc_new W6 (.cells #[.int .i64 0, .bool false, .int .i64 0, .int .u64 0, .slice none 0 0] 37)
      generalize W6.alloc (.cells #[.int .i64 0, .bool false, .int .i64 0, .int .u64 0, .slice none 0 0] 37) = W7 at *
      have hgu : gk + 1 < W6.heap.size := (Array.getElem?_eq_some_iff.1 hop).1
      replace hgr := Nat.le_trans hgr hx_.size
      generalize W6.heap.size = gu at *
      clear o0 o1 o2 o3
      replace hb0 := heap_ext hb0 hx_
      replace hop := heap_ext hop hx_
      replace hbV := hbV.ext hx_
      replace hown := hown.ext hx_
      replace hD := hD.ext hx_
      replace hWr := hWr.trans hx_
      clear hx_
      have hgu2 : gu < W7.heap.size := (Array.getElem?_eq_some_iff.1 hou).1
      have o0 : W7.cell? ⟨gk + 1, 0, none⟩ = some (.int .i64 19) := by simp [World.cell?, hop]
      have o1 : W7.cell? ⟨gk + 1, 1, none⟩ = some (.int .i64 0) := by simp [World.cell?, hop]
      have o2 : W7.cell? ⟨gk + 1, 2, none⟩ = some (.int .i64 0) := by simp [World.cell?, hop]
      have o3 : W7.cell? ⟨gk + 1, 3, none⟩ = some (.int .u64 0) := by simp [World.cell?, hop]
      have u0 : W7.cell? ⟨gu, 0, none⟩ = some (.int .i64 0) := by simp [World.cell?, hou]
      have uf0 : W7.frozen? ⟨gu, 0, none⟩ = false := by simp [World.frozen?, hou]
      have u1 : W7.cell? ⟨gu, 1, none⟩ = some (.bool false) := by simp [World.cell?, hou]
      have uf1 : W7.frozen? ⟨gu, 1, none⟩ = false := by simp [World.frozen?, hou]
      have u2 : W7.cell? ⟨gu, 2, none⟩ = some (.int .i64 0) := by simp [World.cell?, hou]
      have uf2 : W7.frozen? ⟨gu, 2, none⟩ = false := by simp [World.frozen?, hou]
      have u3 : W7.cell? ⟨gu, 3, none⟩ = some (.int .u64 0) := by simp [World.cell?, hou]
      have uf3 : W7.frozen? ⟨gu, 3, none⟩ = false := by simp [World.frozen?, hou]
      have u4 : W7.cell? ⟨gu, 4, none⟩ = some (.slice none 0 0) := by simp [World.cell?, hou]
      have uf4 : W7.frozen? ⟨gu, 4, none⟩ = false := by simp [World.frozen?, hou]
      obtain ⟨X1, hp1, hk1, hcon, hdc⟩ := both_adv hpj hkj hme (most := 300) (by omega) (by omega) (by omega)
      have hse1 : (S.adv 2).e ≤ 3 * (j + 1) := by have := adv_e S 2; omega
      have hhe1 := hhe.perm (adv_all S 2)
      generalize S.adv 2 = S1 at *
      generalize decide (S.okP 2) = b1 at *
      simp only [AloneC] at hcon
      rw [show (((300 : Nat) : Int)) = 300 from rfl] at hcon
      simp only [dirV13] at hdc
      try rw [show (((2 : Nat) : Int)) = 2 from rfl] at hdc
      clear hhe hpj hse
      go_wp2_with fail
      refine (hdc _ _ _ _ hD).mono ?_
      rintro e w9 ⟨rfl, hD9, hx_⟩
      obtain ⟨dA, dq, dc, dB, db, dC, dd, hd0, -⟩ := hD.wld
      have hb09 := hx_.heap hb0 hng
      have hop9 := hx_.heap hop (by omega)
      have hou9 := hx_.heap hou (by omega)
      have hbV9 := hbV.extB hx_ hd0 rfl hkj.2.2
      have hown9 := hown.kept (fun g o hb hv ho => hx_.heap ho (by omega))
      have hWr9 := hx_.ext hWr hls
      have hgr9 := Nat.le_trans hgr hx_.size
      have hgu9 := Nat.lt_of_lt_of_le hgu2 hx_.size
      clear hd0 hb0 hbV hown hWr hgr hD hx_ hdc hop hou hgu2 o0 o1 o2 o3 u0 u1 u2 u3 u4 uf0 uf1 uf2 uf3 uf4
      have hb0 := hb09
      have hbV := hbV9
      have hown := hown9
      have hWr := hWr9
      have hgr := hgr9
      have hD := hD9
      have hop := hop9
      have hou := hou9
      have hgu2 := hgu9
      clear hb09 hbV9 hown9 hWr9 hgr9 hD9 hop9 hou9 hgu9
      have u0 : w9.cell? ⟨gu, 0, none⟩ = some (.int .i64 0) := by simp [World.cell?, hou]
      have uf0 : w9.frozen? ⟨gu, 0, none⟩ = false := by simp [World.frozen?, hou]
      have u1 : w9.cell? ⟨gu, 1, none⟩ = some (.bool false) := by simp [World.cell?, hou]
      have uf1 : w9.frozen? ⟨gu, 1, none⟩ = false := by simp [World.frozen?, hou]
      have u2 : w9.cell? ⟨gu, 2, none⟩ = some (.int .i64 0) := by simp [World.cell?, hou]
      have uf2 : w9.frozen? ⟨gu, 2, none⟩ = false := by simp [World.frozen?, hou]
      have u3 : w9.cell? ⟨gu, 3, none⟩ = some (.int .u64 0) := by simp [World.cell?, hou]
      have uf3 : w9.frozen? ⟨gu, 3, none⟩ = false := by simp [World.frozen?, hou]
      have u4 : w9.cell? ⟨gu, 4, none⟩ = some (.slice none 0 0) := by simp [World.cell?, hou]
      have uf4 : w9.frozen? ⟨gu, 4, none⟩ = false := by simp [World.frozen?, hou]
      go_upto_region 34 with (fail)
      obtain ⟨hou2, hbut, hsz_⟩ := set_box (i := 1) (v := .bool b1) hou (by decide)
      have hWr2 : Ext w (w9.setCell ⟨gu, 1, none⟩ (.bool b1)) := set_ext hWr (by omega)
      have hb02 := hbut _ _ (by omega) hb0
      have hop2 := hbut _ _ (by omega) hop
      have hbV2 := hbV.but hkj.2.2 hbut hou rfl
      have hD2 := hD.but hbut hou rfl hk1.2.2 (by omega) (by omega) (by omega)
      have hown2 : IntOwn (w9.setCell ⟨gu, 1, none⟩ (.bool b1)) gs _ held.length held := hown.kept (fun g o hb hv ho => hbut _ _ (fun e => hown.ne_box hou (by decide) (by rw [← hv, e])) ho)
      replace hgr : gs ≤ (w9.setCell ⟨gu, 1, none⟩ (.bool b1)).heap.size := by rw [hsz_]; exact hgr
      replace hgu2 : gu < (w9.setCell ⟨gu, 1, none⟩ (.bool b1)).heap.size := by rw [hsz_]; exact hgu2
      clear hop hb0 hou hbV hD hown hWr hbut hsz_ u0 u1 u2 u3 u4 uf0 uf1 uf2 uf3 uf4
      generalize (w9.setCell ⟨gu, 1, none⟩ (.bool b1)) = W10 at *
      have hop := hop2
      have hb0 := hb02
      have hou := hou2
      have hbV := hbV2
      have hD := hD2
      have hown := hown2
      have hWr := hWr2
      clear hop2 hb02 hou2 hbV2 hD2 hown2 hWr2
      have o0 : W10.cell? ⟨gk + 1, 0, none⟩ = some (.int .i64 19) := by simp [World.cell?, hop]
      have o1 : W10.cell? ⟨gk + 1, 1, none⟩ = some (.int .i64 0) := by simp [World.cell?, hop]
      have o2 : W10.cell? ⟨gk + 1, 2, none⟩ = some (.int .i64 0) := by simp [World.cell?, hop]
      have o3 : W10.cell? ⟨gk + 1, 3, none⟩ = some (.int .u64 0) := by simp [World.cell?, hop]
      have u0 : W10.cell? ⟨gu, 0, none⟩ = some (.int .i64 0) := by simp [World.cell?, hou]
      have u1 : W10.cell? ⟨gu, 1, none⟩ = some (.bool b1) := by simp [World.cell?, hou]
      have u2 : W10.cell? ⟨gu, 2, none⟩ = some (.int .i64 0) := by simp [World.cell?, hou]
      have u3 : W10.cell? ⟨gu, 3, none⟩ = some (.int .u64 0) := by simp [World.cell?, hou]
      have u4 : W10.cell? ⟨gu, 4, none⟩ = some (.slice none 0 0) := by simp [World.cell?, hou]
      obtain ⟨dA, dq, dc, dB, db, dC, dd, hd0, hdV⟩ := hD.wld
      clear hD
      have e0 : W10.cell? ⟨gv, 0, none⟩ = some (.int .i64 Xj.T) := by simp [World.cell?, hb0]
      have e1 : W10.cell? ⟨gv, 1, none⟩ = some (.int .i64 Xj.C) := by simp [World.cell?, hb0]
      have e2 : W10.cell? ⟨gv, 2, none⟩ = some (.slice bA bq bc) := by simp [World.cell?, hb0]
      have e3 : W10.cell? ⟨gv, 3, none⟩ = some (.int .u64 Xj.R) := by simp [World.cell?, hb0]
      have e4 : W10.cell? ⟨gv, 4, none⟩ = some (.slice bB Xj.n bb) := by simp [World.cell?, hb0]
      have e5 : W10.cell? ⟨gv, 5, none⟩ = some (.slice bC Xj.n bd) := by simp [World.cell?, hb0]
      go_wp2_with fail
      refine (hcon _ _ _ _ hbV).mono ?_
      clear hcon
      rintro e w12 ⟨v_, rfl, hVc, hx_⟩
      obtain ⟨cA, cq, cc, cB, cb, cC, cd, rfl⟩ := hVc.form6
      replace hgr := Nat.le_trans hgr hx_.size
      replace hgu2 := Nat.lt_of_lt_of_le hgu2 hx_.size
      clear o0 o1 o2 o3 u0 u1 u2 u3 u4 e0 e1 e2 e3 e4 e5
      replace hb0 := heap_ext hb0 hx_
      replace hop := heap_ext hop hx_
      replace hou := heap_ext hou hx_
      replace hd0 := heap_ext hd0 hx_
      replace hbV := hbV.ext hx_
      replace hown := hown.ext hx_
      replace hdV := hdV.ext hx_
      replace hWr := hWr.trans hx_
      clear hx_
      go_upto_region 35 with (fail)
      obtain ⟨hx_, hbc, hoc⟩ := two_boxes7 w12 (.cells #[.int .i64 X1.T, .int .i64 X1.C, .slice cA cq cc, .int .u64 X1.R, .slice cB X1.n cb, .slice cC X1.n cd] 51) (.cells #[.int .i64 0, .bool b1, .int .i64 0, .int .u64 0, .slice none 0 0] 37)
      generalize (w12.alloc (.cells #[.int .i64 X1.T, .int .i64 X1.C, .slice cA cq cc, .int .u64 X1.R, .slice cB X1.n cb, .slice cC X1.n cd] 51)).alloc (.cells #[.int .i64 0, .bool b1, .int .i64 0, .int .u64 0, .slice none 0 0] 37) = W12 at *
      have hgc := hgr
      have hguc := hgu2
      replace hgr := Nat.le_trans hgr hx_.size
      generalize w12.heap.size = gc at *
      replace hb0 := heap_ext hb0 hx_
      replace hop := heap_ext hop hx_
      replace hou := heap_ext hou hx_
      replace hd0 := heap_ext hd0 hx_
      replace hbV := hbV.ext hx_
      replace hown := hown.ext hx_
      replace hdV := hdV.ext hx_
      replace hVc := hVc.ext hx_
      replace hWr := hWr.trans hx_
      clear hx_
      have r0 : W12.cell? ⟨gc + 1, 0, none⟩ = some (.int .i64 0) := by simp [World.cell?, hoc]
      have r1 : W12.cell? ⟨gc + 1, 1, none⟩ = some (.bool b1) := by simp [World.cell?, hoc]
      have r2 : W12.cell? ⟨gc + 1, 2, none⟩ = some (.int .i64 0) := by simp [World.cell?, hoc]
      have r3 : W12.cell? ⟨gc + 1, 3, none⟩ = some (.int .u64 0) := by simp [World.cell?, hoc]
      have r4 : W12.cell? ⟨gc + 1, 4, none⟩ = some (.slice none 0 0) := by simp [World.cell?, hoc]
      have u0 : W12.cell? ⟨gu, 0, none⟩ = some (.int .i64 0) := by simp [World.cell?, hou]
      have u1 : W12.cell? ⟨gu, 1, none⟩ = some (.bool b1) := by simp [World.cell?, hou]
      have u2 : W12.cell? ⟨gu, 2, none⟩ = some (.int .i64 0) := by simp [World.cell?, hou]
      have u3 : W12.cell? ⟨gu, 3, none⟩ = some (.int .u64 0) := by simp [World.cell?, hou]
      have u4 : W12.cell? ⟨gu, 4, none⟩ = some (.slice none 0 0) := by simp [World.cell?, hou]
      go_wp2_with fail
      refine (outs_lit _).mono ?_
      rintro e w13 ⟨rfl, hx_⟩
      replace hgr := Nat.le_trans hgr hx_.size
      clear r0 r1 r2 r3 r4 u0 u1 u2 u3 u4
      replace hb0 := heap_ext hb0 hx_
      replace hop := heap_ext hop hx_
      replace hou := heap_ext hou hx_
      replace hd0 := heap_ext hd0 hx_
      replace hbc := heap_ext hbc hx_
      replace hoc := heap_ext hoc hx_
      replace hbV := hbV.ext hx_
      replace hown := hown.ext hx_
      replace hdV := hdV.ext hx_
      replace hVc := hVc.ext hx_
      replace hWr := hWr.trans hx_
      clear hx_
      go_upto_region 37 with (fail)
      have nc : ¬ gv = gc := by omega
      have nc' : ¬ gc = gv := by omega
      have f0 : w13.cell? ⟨gc, 0, none⟩ = some (.int .i64 X1.T) := by simp [World.cell?, hbc]
      have f1 : w13.cell? ⟨gc, 1, none⟩ = some (.int .i64 X1.C) := by simp [World.cell?, hbc]
      have f2 : w13.cell? ⟨gc, 2, none⟩ = some (.slice cA cq cc) := by simp [World.cell?, hbc]
      have f3 : w13.cell? ⟨gc, 3, none⟩ = some (.int .u64 X1.R) := by simp [World.cell?, hbc]
      have f4 : w13.cell? ⟨gc, 4, none⟩ = some (.slice cB X1.n cb) := by simp [World.cell?, hbc]
      have f5 : w13.cell? ⟨gc, 5, none⟩ = some (.slice cC X1.n cd) := by simp [World.cell?, hbc]
      have e0 : w13.cell? ⟨gv, 0, none⟩ = some (.int .i64 Xj.T) := by simp [World.cell?, hb0]
      have ef0 : w13.frozen? ⟨gv, 0, none⟩ = false := by simp [World.frozen?, hb0]
      have e1 : w13.cell? ⟨gv, 1, none⟩ = some (.int .i64 Xj.C) := by simp [World.cell?, hb0]
      have ef1 : w13.frozen? ⟨gv, 1, none⟩ = false := by simp [World.frozen?, hb0]
      have e2 : w13.cell? ⟨gv, 2, none⟩ = some (.slice bA bq bc) := by simp [World.cell?, hb0]
      have ef2 : w13.frozen? ⟨gv, 2, none⟩ = false := by simp [World.frozen?, hb0]
      have e3 : w13.cell? ⟨gv, 3, none⟩ = some (.int .u64 Xj.R) := by simp [World.cell?, hb0]
      have ef3 : w13.frozen? ⟨gv, 3, none⟩ = false := by simp [World.frozen?, hb0]
      have e4 : w13.cell? ⟨gv, 4, none⟩ = some (.slice bB Xj.n bb) := by simp [World.cell?, hb0]
      have ef4 : w13.frozen? ⟨gv, 4, none⟩ = false := by simp [World.frozen?, hb0]
      have e5 : w13.cell? ⟨gv, 5, none⟩ = some (.slice bC Xj.n bd) := by simp [World.cell?, hb0]
      have ef5 : w13.frozen? ⟨gv, 5, none⟩ = false := by simp [World.frozen?, hb0]
      go_wp2
      have hb0_ : ((((((w13.setCell ⟨gv, 0, none⟩ (.int .i64 X1.T)).setCell ⟨gv, 1, none⟩ (.int .i64 X1.C)).setCell ⟨gv, 2, none⟩ (.slice cA cq cc)).setCell ⟨gv, 3, none⟩ (.int .u64 X1.R)).setCell ⟨gv, 4, none⟩ (.slice cB X1.n cb)).setCell ⟨gv, 5, none⟩ (.slice cC X1.n cd)).heap[gv]? = some (.cells #[.int .i64 X1.T, .int .i64 X1.C, .slice cA cq cc, .int .u64 X1.R, .slice cB X1.n cb, .slice cC X1.n cd] 51 (0, 0)) := setAll_all (vs := [.int .i64 X1.T, .int .i64 X1.C, .slice cA cq cc, .int .u64 X1.R, .slice cB X1.n cb, .slice cC X1.n cd]) hb0 rfl
      have hWs_ : Ext w ((((((w13.setCell ⟨gv, 0, none⟩ (.int .i64 X1.T)).setCell ⟨gv, 1, none⟩ (.int .i64 X1.C)).setCell ⟨gv, 2, none⟩ (.slice cA cq cc)).setCell ⟨gv, 3, none⟩ (.int .u64 X1.R)).setCell ⟨gv, 4, none⟩ (.slice cB X1.n cb)).setCell ⟨gv, 5, none⟩ (.slice cC X1.n cd)) := setAll_ext (g := gv) (vs := [.int .i64 X1.T, .int .i64 X1.C, .slice cA cq cc, .int .u64 X1.R, .slice cB X1.n cb, .slice cC X1.n cd]) (i := 0) hWr hlsv
      have hk_ : ∀ g, g ≠ gv → ((((((w13.setCell ⟨gv, 0, none⟩ (.int .i64 X1.T)).setCell ⟨gv, 1, none⟩ (.int .i64 X1.C)).setCell ⟨gv, 2, none⟩ (.slice cA cq cc)).setCell ⟨gv, 3, none⟩ (.int .u64 X1.R)).setCell ⟨gv, 4, none⟩ (.slice cB X1.n cb)).setCell ⟨gv, 5, none⟩ (.slice cC X1.n cd)).heap[g]? = w13.heap[g]? := fun g hg => setAll_other (g := gv) (k := g) hg [.int .i64 X1.T, .int .i64 X1.C, .slice cA cq cc, .int .u64 X1.R, .slice cB X1.n cb, .slice cC X1.n cd] 0 w13
      have hd0_ := (hk_ ga (Ne.symm hng)).trans hd0
      have hVc_ := hVc.but hk1.2.2 (But.all gv [.int .i64 X1.T, .int .i64 X1.C, .slice cA cq cc, .int .u64 X1.R, .slice cB X1.n cb, .slice cC X1.n cd] 0 w13) hb0 rfl
      change WldV ((((((w13.setCell ⟨gv, 0, none⟩ (.int .i64 X1.T)).setCell ⟨gv, 1, none⟩ (.int .i64 X1.C)).setCell ⟨gv, 2, none⟩ (.slice cA cq cc)).setCell ⟨gv, 3, none⟩ (.int .u64 X1.R)).setCell ⟨gv, 4, none⟩ (.slice cB X1.n cb)).setCell ⟨gv, 5, none⟩ (.slice cC X1.n cd)) _ _ at hVc_
      have hdV_ := hdV.but hk1.2.2 (But.all gv [.int .i64 X1.T, .int .i64 X1.C, .slice cA cq cc, .int .u64 X1.R, .slice cB X1.n cb, .slice cC X1.n cd] 0 w13) hb0 rfl
      change WldV ((((((w13.setCell ⟨gv, 0, none⟩ (.int .i64 X1.T)).setCell ⟨gv, 1, none⟩ (.int .i64 X1.C)).setCell ⟨gv, 2, none⟩ (.slice cA cq cc)).setCell ⟨gv, 3, none⟩ (.int .u64 X1.R)).setCell ⟨gv, 4, none⟩ (.slice cB X1.n cb)).setCell ⟨gv, 5, none⟩ (.slice cC X1.n cd)) _ _ at hdV_
      have hsz_ : ((((((w13.setCell ⟨gv, 0, none⟩ (.int .i64 X1.T)).setCell ⟨gv, 1, none⟩ (.int .i64 X1.C)).setCell ⟨gv, 2, none⟩ (.slice cA cq cc)).setCell ⟨gv, 3, none⟩ (.int .u64 X1.R)).setCell ⟨gv, 4, none⟩ (.slice cB X1.n cb)).setCell ⟨gv, 5, none⟩ (.slice cC X1.n cd)).heap.size = w13.heap.size := by simp [World.setCell]
      have hown_ := hown.kept (w' := ((((((w13.setCell ⟨gv, 0, none⟩ (.int .i64 X1.T)).setCell ⟨gv, 1, none⟩ (.int .i64 X1.C)).setCell ⟨gv, 2, none⟩ (.slice cA cq cc)).setCell ⟨gv, 3, none⟩ (.int .u64 X1.R)).setCell ⟨gv, 4, none⟩ (.slice cB X1.n cb)).setCell ⟨gv, 5, none⟩ (.slice cC X1.n cd))) (fun g o hb hv ho => (hk_ g (by omega)).trans ho)
      have hgr_ : gs ≤ ((((((w13.setCell ⟨gv, 0, none⟩ (.int .i64 X1.T)).setCell ⟨gv, 1, none⟩ (.int .i64 X1.C)).setCell ⟨gv, 2, none⟩ (.slice cA cq cc)).setCell ⟨gv, 3, none⟩ (.int .u64 X1.R)).setCell ⟨gv, 4, none⟩ (.slice cB X1.n cb)).setCell ⟨gv, 5, none⟩ (.slice cC X1.n cd)).heap.size := by rw [hsz_]; exact hgr
      clear hk_ hsz_ hown hgr hoc hou hop hb0 hVc hWr hbc hbV hd0 hdV f0 f1 f2 f3 f4 f5 e0 e1 e2 e3 e4 e5 ef0 ef1 ef2 ef3 ef4 ef5
      generalize ((((((w13.setCell ⟨gv, 0, none⟩ (.int .i64 X1.T)).setCell ⟨gv, 1, none⟩ (.int .i64 X1.C)).setCell ⟨gv, 2, none⟩ (.slice cA cq cc)).setCell ⟨gv, 3, none⟩ (.int .u64 X1.R)).setCell ⟨gv, 4, none⟩ (.slice cB X1.n cb)).setCell ⟨gv, 5, none⟩ (.slice cC X1.n cd)) = wg at *
      go_roundw
      case rel => exact ⟨j + 1, X1, S1, held, by go_num, by omega, ⟨_, hd0_, hdV_⟩, ⟨_, hb0_, hVc_⟩, hp1, hk1, hhe1, hse1, hown_, hWs_, hgr_⟩
      case measure => simp [intOf]; omega
set_option maxRecDepth 100000 in
theorem EpochDirect_lifted (os : Os) (started : os.Started) (H : Type) (enc : TypeId × Value → H) :
    ReturnsInHanded {} Try.checked os 8 .any (Rows.epochDirectSpec.pre6 enc Try.prog Try.f8 Rows.epochDirectRow.domain false) (Rows.epochDirectSpec.post enc Try.prog Try.f8 false true false false) := by
  refine law_row os started H enc Rows.epochDirectSpec rfl (fun ds h => by
    match ds, h with
    | [_, _], _ => rfl) (by kernel_rfl) Try.func8 rfl
    (by rw [Try.params8]; intro t ht; simp at ht; rcases ht with rfl | rfl <;> exact ⟨by kernel_rfl, of_decide_eq_true (by kernel_rfl)⟩)
    (ChangeSpec.witness6 (enc := enc) (C := Try.checked) false ⟨#[], #[.int .u8 0, .slice none 0 0], []⟩ 8 (by kernel_rfl) (by kernel_rfl) (by kernel_rfl) (by kernel_rfl)) ?_
  intro W base args ds ps hval hA hlt
  rw [Try.params8] at hA hval
  obtain ⟨v0, v1, d0, d1, p0, p1, rfl, rfl, rfl, h0, h1⟩ := trodAll_two hA
  obtain ⟨t, rfl, rfl, rfl, w1⟩ := open_int Try.underlying5 (hval 0 _ v0 rfl rfl) h0
  obtain ⟨M, m, mc, ms, rfl, hM⟩ := open_bytes1 (hval 1 _ v1 rfl rfl) h1
  have b1 := wf_u8 w1
  obtain ⟨tn, rfl⟩ := Int.eq_ofNat_of_zero_le b1.1
  exact edirect_walk tn (by omega) M m mc ms W hM
theorem EpochDirect_holds : Rows.EpochDirectSaid :=
  OpenClaim.holds_of_wide 8 Try.f8 rfl rfl rfl rfl rfl rfl rfl ⟨rfl, rfl, rfl, rfl, rfl⟩ rfl rfl rfl rfl rfl (by kernel_rfl) Try.func8 (by kernel_rfl)
    (of_decide_eq_true (by kernel_rfl)) (by unfold Func.isWrapper; rw [if_neg (of_decide_eq_false (by kernel_rfl))]; exact ⟨rfl, rfl⟩)
    (fun os started H enc _ => EpochDirect_lifted os started H enc)
#print axioms EpochDirect_holds
end Go.Proofs.Ytjokaginolpbeaa
